/- A part of the proof that ProofGreat returns true. -/
import Derived.Test.YtngcidmhopkokaaGreatDoorMyGr1
import Derived.Test.YtngcidmhopkokaaGreatDoorMyGr3
import Derived.Test.YtngcidmhopkokaaGreatDoorMyGr2
import Derived.Test.YtngcidmhopkokaaGreatDoorMyStates
import Derived.Test.YtngcidmhopkokaaGreatDoorMyEv4
import Derived.Test.YtngcidmhopkokaaGreatDoorMyEv5
set_option linter.all false
namespace Go.Ev
open Go.Proofs Go.Proofs.Tryz
set_option maxRecDepth 100000
section
variable{P:Program}{args cs ps:List AV}{b bt n ot q:Nat}{f:AF}{g:FuncId}{h h1 h2:AH}{v:AV}
noncomputable def Zb(b q m c:Nat)(cs:List AV)(e:Int):AH:=(vS q m c b cs e)
noncomputable def htB(b q m c:Nat)(cs:List AV)(e:Int):AH:=(nu q m c b cs e)
noncomputable def htG(b q m c:Nat)(i:Int)(a d:Nat):AF:=⟨⟨8,false,some 5,67⟩,(((((((Tr.e.n (some (AV.int IntKind.i64 (↑m:Int))) Tr.e).n none Tr.e).n (some (AV.aO (some (q,0)) m c)) ((Tr.e.n (some (AV.aO (some (q,0)) m c)) Tr.e).n (some (AV.bV [AV.aO (some (q,0)) m c,AV.bool true])) Tr.e)).n (some (AV.ptr (1152921504606846976+b) 0)) (((Tr.e.n (some (AV.aO (some (q,0)) m c)) Tr.e).n none Tr.e).n (some (AV.ptr 1 0)) (Tr.e.n (some (AV.bool true)) Tr.e))).n none ((((Tr.e.n (some (AV.sl 0 0 m (some m))) Tr.e).n none Tr.e).n (some (AV.bool true)) ((Tr.e.n (some (AV.fn 56 [] [AV.ptr 3 0])) Tr.e).n (some (AV.aO (some (q,0)) m c)) Tr.e)).n (some (AV.int IntKind.i64 0)) (((Tr.e.n (some (AV.int IntKind.i64 (↑m:Int))) Tr.e).n (some (AV.bV [AV.aO (some (q,0)) m c,AV.bool true])) Tr.e).n (some (AV.ptr 2 0)) (Tr.e.n (some (AV.aO (some (q,0)) m c)) Tr.e))))).set 21 (zI i)).set 22 (.ptr (OLD+a) d),Sw,[],false⟩
noncomputable def htI(i:Int)(a b:Nat)(j:Int):AF:=(Ox (zI i) (zI j) (.ptr (OLD+a) b))
noncomputable def htF(i:Int):AF:=(J3 (zI i))
theorem gD{h:AH}{id off:Nat}{l vs:List AV}{e:TypeId}{g:Bool}(a:h.obj id= .cells l e g false)(b:off+vs.length<=l.length)(c:lu vs=true):dD h id off vs=some (h.put id (.cells (setAt l off vs) e g false)):=by
 unfold dD;rw[a];show cond (Nat.ble (off+vs.length) l.length&&lu vs) (some _) none=_;rw[aW b,c];rfl
theorem Ic:∀(l:List T),(∀u∈l,u.kids=[])->Db l.length l=l
 |[],_=>rfl
 |u::l,h=>by
  show u::Db l.length (l++u.kids)=_;rw[h u (bK ..),bD,Ic l λv a=>h v (bg _ a)]
theorem tL:∀(l:List T),(∀u∈l,u.kids=[])->gP l=l.length
 |[],_=>rfl
 |u::l,h=>by
  show u.size+gP l=l.length+1;rw[nG,h u (bK ..),tL l λv a=>h v (bg _ a)];show(0+1)+l.length=_;omega
theorem Od{t:T}(h:∀u∈t.kids,u.kids=[]):Db t.size [t]=t::t.kids:=by
 rw[nG,tL _ h];show t::Db t.kids.length ([]++t.kids)=_;rw[nA,Ic _ h]
theorem Eo{u:T}(h:nW u=true):u.kids=[]:=by
 unfold nW at h;rw[av]at h;exact List.isEmpty_iff.1 h.2
theorem DoesS.ku{E:Env}{u:AV}(F:Fits P E)(FF:dM P E){l:List Kk}(A:AtCall P E l f h g args h1)(C:DoesC P E g args h1 u h2):DoesS P E f h (gX P E l f h u) h2:=by
 obtain⟨obs,e,H⟩:=A;unfold gX;cases hp:sj P E l f h with
 |none=>rw[hp]at e;cases e
 |some p=>
  obtain⟨i,h0,o⟩:=p;rw[hp]at e;simp only at e;cases b:iw E i h0 with
  |none=>rw[b]at e;cases e
  |some a=>
   rw[b]at e;cases a with
   |call f' d g' c j=>
    simp only at e;cases e;have T:=(path_ok F FF _ f h hp H).trans (DoesS.call F FF b C);simp only[b];exact T
   |_=>cases e
section
variable(W:Fe)(Y:Ge)(Z:Old)(F:Fw Z)(X:Gw Z)
include W Y F X
theorem K6{o:Nat}{t:T}(hp:tq Z (.ptr (OLD+b) o) t):∃k c,∀h:AH,loadT (E.wo Z) h 26 (OLD+b) (o+3)=some (.aO k t.kids.length c):=by
 obtain⟨b',d,cs,e,e2,f⟩:=hp;obtain⟨g,i⟩:b'=b∧d=o:=by injection e with h1 j;exact⟨by omega,j.symm⟩
 subst g;subst i;obtain⟨a,l,c,ks,rfl,m,n,p⟩:=f.one;exact⟨l,c,λh=>gB (by kernel_rfl) (iY e2 rfl)⟩
theorem Za{m c:Nat}{e i:Int}{t:T}(hp:tq Z (.ptr (OLD+bt) ot) t)(a:nW t=true)(h:0<=e)(he2:e<=65536):DR Z (htG b q m c i bt ot) (Zb b q m c cs e) (.bool true) (Zb b q m c cs e):=by
 obtain⟨k,f,d⟩:=K6 W Y Z F X hp;have g:=Eo a;have C:DC Z 27 [.ptr (OLD+bt) ot] eH (.bool true) eH:=by
  have:=ZJ W Y Z F X hp;rw[show(t.rule==0&&t.kids.isEmpty)=true from a]at this;exact this
 rw[g]at d;have w:IntKind.i64.wrap (e - ((0:Nat):Int))=e:=by rw[dW (by omega) (by omega)];omega
 have A:=bdA W Y Z F X b q m c cs e i bt ot k 0 f d (DoesC.ov C (lC bt) rfl rfl (by kernel_rfl)) (aD (by rw[w];omega));rw[w]at A;exact A
theorem aap{b q m c n:Nat}{a d:Nat}{t:T}(hp:tq Z (.ptr (OLD+a) d) t)(f:t.kids.length=n)(i:m=n+1)(j:m<=65536):∀(r y:Nat),y+r=m->0<y->
 DR Z (htI 0 a d y) (htB b q m c (zI 1::rep n [zI 0]) m) (.bool true) (Zb b q m c (zI 1::rep n [zI 0]) 1)
 |0,y,o,h0=>by
  obtain⟨k,p,g⟩:=K6 W Y Z F X hp;rw[f]at g;have A:=bdD W Y Z F X b q m c (zI 1::rep n [zI 0]) m 0 a d y k n p g (aD (by omega));have w:IntKind.i64.wrap ((m:Int) - (n:Int))=1:=by rw[dW (by omega) (by omega)];omega
  rw[w]at A;exact A
 |r+1,y,o,h0=>by
  have w0:IntKind.i64.wrap ((0:Int)+1)=1:=by rw[dW (by omega) (by omega)];rfl
  have s:(zI 1::rep n [zI 0])[y*1]? =some (zI 0):=by
   obtain⟨z,rfl⟩:∃z,y=z+1:=⟨y - 1,by omega⟩;rw[bW,fO,KF n z (by simp;omega)];simp[Nat.mod_one]
  have A:=bdC W Y Z F X b q m c (zI 1::rep n [zI 0]) m 0 a d y 0 y rfl (by omega) rfl (by omega) 1 0 (λh e=>lD (by kernel_rfl) rfl e rfl) (λh e=>lD (by kernel_rfl) rfl e s) (zI 1::rep n [zI 0]) (by
   rw[w0];exact(gD (l:=zI 1::rep n [zI 0]) rfl (by simp) rfl).trans rfl) (aA (by omega))
  rw[wrapN (by omega)]at A;exact Does.of A (aap hp f i j r (y+1) (by omega) (by omega))
theorem Y9{m c:Nat}{t:T}(hp:tq Z (.ptr (OLD+bt) ot) t)(f:nW t=false)(a:t.kids.length=n)(d:m=n+1)(g:m<=65536):
 DR Z (htG b q m c 0 bt ot) (Zb b q m c (rep m [zI 0]) m) (.bool true) (Zb b q m c (zI 1::rep n [zI 0]) 1):=by
 obtain⟨k,h,e⟩:=K6 W Y Z F X hp;have C:DC Z 27 [.ptr (OLD+bt) ot] eH (.bool false) eH:=by
  have:=ZJ W Y Z F X hp;rw[show(t.rule==0&&t.kids.isEmpty)=false from f]at this;exact this
 rw[a]at e;have hr:rep m [zI 0]=zI 0::rep n [zI 0]:=by rw[d];rfl
 have w:IntKind.i64.wrap ((m:Int) - (n:Int))=((1:Nat):Int):=by rw[dW (by omega) (by omega)];omega
 have A:=bdB W Y Z F X b q m c (rep m [zI 0]) m 0 bt ot k n h e (DoesC.ov C (lC bt) rfl rfl (by kernel_rfl)) 0 rfl (by omega) (zI 1::rep n [zI 0]) ((gD (l:=rep m [zI 0]) rfl (by rw[hr];simp) rfl).trans (by rw[hr];rfl));rw[w]at A;exact Does.of A (aap W Y Z F X hp a d g n 1 (by omega) (by omega))
theorem RU{b q m c n:Nat}{t:T}{ps:List AV}(g:iI Z q 0 m=some ps)(j:Gq Z ps (t::t.kids))(l:nW t=false)(o:∀u∈t.kids,nW u=true)(r:t.kids.length=n)(s:m=n+1)(v:m<=65536):∀x,x<m->
 DR Z (htF x) (Zb b q m c (rep m [zI 0]) m) (.bV []) (Zb b q m c (zI 1::rep n [zI 0]) 1)
 |0,y=>by
  obtain⟨p,e1,hp⟩:=j.get (i:=0) (t:=t) rfl;have a:=hp;obtain⟨d,e,cs,rfl,e2,B⟩:=hp;have A:=it1 W Y Z F X b q m c (rep m [zI 0]) m 0 0 rfl (by omega) d e (λh=>gB (by kernel_rfl) (iY g e1)) rfl;have k:=DoesS.Sr F X A (Y9 W Y Z F X a l r s v);have f:=it2 W Y Z F X b q m c (rep m [zI 0]) m 0 0 d e (zI 1::rep n [zI 0]) 1;have w:IntKind.i64.wrap ((0:Int) - 1)= -1:=by rw[dW (by omega) (by omega)];rfl
  rw[w]at f;exact Does.of k (Does.of f (it3 W Y Z F X b q m c (zI 1::rep n [zI 0]) 1 (-1) rfl))
 |x+1,y=>by
  obtain⟨u,z⟩:∃u,t.kids[x]? =some u:=⟨_,aK (by omega)⟩;obtain⟨p,e1,hp⟩:=j.get (i:=x+1) (t:=u) (by rw[fO];exact z);have a:=hp;obtain⟨d,e,cs,rfl,e2,B⟩:=hp;have A:=it1 W Y Z F X b q m c (rep m [zI 0]) m (x+1:Nat) (x+1) rfl y d e (λh=>gB (by kernel_rfl) (by rw[bW];exact iY g e1)) (aA (by omega));have k:=DoesS.Sr F X A (Za W Y Z F X a (o u (bE z)) (by omega) (by omega));have f:=it2 W Y Z F X b q m c (rep m [zI 0]) m (x+1:Nat) (x+1) d e (rep m [zI 0]) m;have w:IntKind.i64.wrap (((x+1:Nat):Int) - 1)=(x:Int):=by rw[dW (by omega) (by omega)];omega
  rw[w]at f;exact Does.of k (Does.of f (RU g j l o r s v x (by omega)))
theorem c56{m c:Nat}{t:T}(a:iI Z q 0 m=some ps)(d:Gq Z ps (t::t.kids))(e:nW t=false)(f:∀u∈t.kids,nW u=true)(g:t.kids.length=n)(h:m=n+1)(i:m<=65536):
 DC Z 56 [.yield 5,.ptr 3 0] (Zb b q m c (rep m [zI 0]) m) (.bV []) (Zb b q m c (zI 1::rep n [zI 0]) 1):=by
 have A:=it0 W Y Z F X b q m c (rep m [zI 0]) m;have w:IntKind.i64.wrap ((m:Int) - 1)=((m - 1:Nat):Int):=by rw[dW (by omega) (by omega)];omega
 rw[w]at A;exact DoesC.ent X (by kernel_rfl) (Does.of A (RU W Y Z F X a d e f g h i (m - 1) (by omega)))
end
section
variable(W:Fe)(Y:Ge)(X:∀old,Fw old)(Z:∀old,Gw old)
include W Y X Z
theorem c8(old:Old){t:T}(k:wI old v t)(l:t.size<=65536)(m:nW t=false)(e:∀u∈t.kids,nW u=true):dU prog E old 8 [v] (λ_ w=>w=zI 1):=by
 obtain⟨cs,rfl,h⟩:=k;obtain⟨a,n,o,ks,rfl,z,B,D⟩:=h.one;refine dU.KT (Z old) (by kernel_rfl) (bO.of (he1 W Y old (X old) (Z old) t.rel a t.rule n t.kids.length o) (aT rfl) ?_);refine bO.box h rfl rfl (λb=>AF.jd (by show(((true&&(Nat.blt (OLD+b) 0||Nat.ble OLD (OLD+b))&&true)&&true&&true)&&true)=true;rw[oI];rfl)) λold' b p hp=>?_;refine bO.ku (X old') (Z old') (he2 W Y old' (X old') (Z old') b) (lC b) rfl (aT rfl) (c18 W Y X Z old' hp l) ?_;have q:=Od λu f=>Eo (e u f);have r:t.size=t.kids.length+1:=by rw[nG,tL _ λu f=>Eo (e u f)]
 rw[q]
 rintro d w i ⟨j,g,ps,rfl,h1,s⟩
 have x:(t::t.kids).length=t.kids.length+1:=rfl;rw[x]at h1 ⊢;have A:=he3 W Y d (X d) (Z d) old' b j (t.kids.length+1) g (by omega) (Nat.succ_pos _);have C:=c56 W Y d (X d) (Z d) (b:=b) (c:=g) h1 s m e rfl rfl (by omega);have S:=DoesS.ku (X d) (Z d) A C;refine bO.of S (aT rfl) (bO.does (he5 W Y d (X d) (Z d) b j (t.kids.length+1) g (zI 1::rep t.kids.length [zI 0]) 1 old' 1 (Nat.succ_pos _) (by simp;omega) (λh y=>lD (by kernel_rfl) rfl y rfl) (by simp;omega)) (aT rfl) rfl (qh.low rfl rfl))
end
end
section
variable(Y:Fe)(Z:Ge)
include Y Z
end
section
variable(W:Fe)(Y:Ge)(Z:Old)(F:Fw Z)(X:Gw Z)
include W Y F X
end
section
variable(Y:Fe)(Z:Ge)
include Y Z
theorem acF(old:Old)(F:Fw old)(FF:Gw old)(n:Nat)(a:n<=1048576):DS old (ent (E.wo old) 5 [zI n]) ⟨.e,0,0⟩ (Ow (zI (↑n:Int)) (zI 0)) (lX uS IB (.cells [.str [113],.sl 3 0 1 (some 1),zI 1,.sl 4 0 n (some n)] 28 false false) pI (.cells (rep n [AV.str [],AV.aM,AV.int IntKind.i64 0,AV.aM]) 28 false false) uS):=
 jK F FF [0,2,3,4] (Qd 5 [.k Jf (iK uS IB pI uS),.c,.l (.sl 4 0 n (some n)) (yC uS IB pI (.cells (rep n [AV.str [],AV.aM,AV.int IntKind.i64 0,AV.aM]) 28 false false) uS),.c,.c,.c] (Qp (DoesC.of_run F FF (n:=3000) (p:=(Jf,(iK uS IB pI uS))) (by kernel_rfl):DC old 16 [.str [113],zI 1] (aC pI) Jf (iK uS IB pI uS)) (Qq (wZ (e:=28) (by kernel_rfl) (by kernel_rfl) a:eF (E.wo old) (iK uS IB pI uS) 26 (zI (↑n:Int)) (zI (↑n:Int))=some (.val (.sl 4 0 n (some n)) (yC uS IB pI (.cells (rep n [AV.str [],AV.aM,AV.int IntKind.i64 0,AV.aM]) 28 false false) uS))) (Qn 7)))) (by kernel_rfl)
end
section
variable(Y:Fe)(Z:Ge)
include Y Z
section
variable(X:Old)(F:Fw X)(U:Gw X)(n q W:Nat)(V:List AV)(i:Int)
include X F U n q W V i
theorem acE(a:List AV)(x:Nat)(b:i=(↑x:Int))(lx:x<n)(d:dD (A8 (.cells [zI 1,zI (i.tmod 3),.str []] 94 false false) (BO q W n) (.cells [zI 1,zI (i.tmod 3),.str []] 94 false false) (iP V)) 4 (x*4) [.str [112],.sl 8 0 1 (some 1)]=some (A8 (.cells [zI 1,zI (i.tmod 3),.str []] 94 false false) (BO q W n) (.cells [zI 1,zI (i.tmod 3),.str []] 94 false false) (iP a)))(e:(decide (i<(↑n:Int)))=true):DS X (Ow (zI (↑n:Int)) (zI i)) (Om (BO q W n) (iP V)) (Ow (zI (↑n:Int)) (zI (IntKind.i64.wrap (i+1)))) (A8 (.cells [zI 1,zI (i.tmod 3),.str []] 94 false false) (BO q W n) (.cells [zI 1,zI (i.tmod 3),.str []] 94 false false) (iP a)):=
 jK F U [0,2,3,4] (Qb 5 e (Qd 5 [.c,.c,.c,.c,.c,.k ZX (A8 (.cells [zI 1,zI (i.tmod 3),.str []] 94 false false) (BO q W n) (.cells [zI 1,zI (i.tmod 3),.str []] 94 false false) (iP V)),.v (zP 4 (x*4)),.c,.l (.bV []) (A8 (.cells [zI 1,zI (i.tmod 3),.str []] 94 false false) (BO q W n) (.cells [zI 1,zI (i.tmod 3),.str []] 94 false false) (iP a))] (Qp (DoesC.of_run F U (n:=3000) (p:=(ZX,(A8 (.cells [zI 1,zI (i.tmod 3),.str []] 94 false false) (BO q W n) (.cells [zI 1,zI (i.tmod 3),.str []] 94 false false) (iP V)))) (by kernel_rfl):DC X 16 [.str [112],zI (i.tmod 3)] (Om (BO q W n) (iP V)) ZX (A8 (.cells [zI 1,zI (i.tmod 3),.str []] 94 false false) (BO q W n) (.cells [zI 1,zI (i.tmod 3),.str []] 94 false false) (iP V))) (Qq (y26 X 4 (some n) b lx) (Qz (Qp (jR (by kernel_rfl) rfl d:fU (E.wo X) (A8 (.cells [zI 1,zI (i.tmod 3),.str []] 94 false false) (BO q W n) (.cells [zI 1,zI (i.tmod 3),.str []] 94 false false) (iP V)) 25 (zP 4 (x*4+0)) ZX=some (.val (.bV []) (A8 (.cells [zI 1,zI (i.tmod 3),.str []] 94 false false) (BO q W n) (.cells [zI 1,zI (i.tmod 3),.str []] 94 false false) (iP a)))) (Qs (.sl 4 0 n (some n)) (Qs (.sl 4 0 n (some n)) (Qn 7))))))))) (by kernel_rfl)
theorem acD(a:(decide (i<(↑n:Int)))=false):DS X (Ow (zI (↑n:Int)) (zI i)) (Om (BO q W n) (iP V)) (XK (zI (↑n:Int))) (Om (BO q W n) (iP V)):=
 jK F U [0,2,3] (Qb 5 a (Qn 3)) (by kernel_rfl)
end
end
section
variable(Y:Fe)(Z:Ge)
include Y Z
theorem acC(old:Old)(F:Fw old)(FF:Gw old)(n q a b c:Nat):DR old (XK (zI (↑n:Int))) ⟨zN (zO .e (zL (acs q a b n c))) pI .e,6,0⟩ (.agg [.str [113],.aO (some (q,0)) 1 a,zI 1,.aO (some (b,0)) n c]) ⟨zN (zO .e (zL (acs q a b n c))) (acs q a b n c) .e,6,0⟩:=
 prt F FF (Qn 6) (by kernel_rfl)
end
section
variable{cs:List AV}{n q x:Nat}
def su(k:Int):PV:=⟨1,k,[]⟩
def sI(i:Nat):T:= .node [112] [su ((↑i:Int).tmod 3)] 0 []
def dB(n:Nat):T:= .node [113] [su 1] 1 ((List.range n).map sI)
def z4:List AV:=[.str [],.aM,zI 0,.aM]
noncomputable def wH(n q a:Nat)(cs:List AV):AH:=(Om (BO q a n) (iP cs))
noncomputable def wH9(n q a:Nat)(cs:List AV)(i:Int):AH:=(A8 (.cells [zI 1,zI (i.tmod 3),.str []] 94 false false) (BO q a n) (.cells [zI 1,zI (i.tmod 3),.str []] 94 false false) (iP cs))
noncomputable def wF(n:Nat)(i:Int):AF:=(Ow (zI ((↑n:Int))) (zI i))
noncomputable def wF2(n:Nat):AF:=(XK (zI ((↑n:Int))))
theorem aaR{a:Nat}(h:AV.dX 0 cs=true):fH 6 (wH n q a cs).tr=true:=by
 have b:AV.dX 6 cs=true:=AV.qK h;show((true&&true&&(true&&true&&true))&&true&&((true&&AV.dX 6 cs&&true)&&true&&true))=true;rw[b];rfl
theorem OX{a:Nat}{ds:List AV}{m:Nat}(b:ds.length=x*4)(i:Int):dD (wH9 n q a (ds++(z4++rep m z4)) i) 4 (x*4) [.str [112],.sl 8 0 1 (some 1)]=some (wH9 n q a (ds++([.str [112],.sl 8 0 1 (some 1),zI 0,.aM]++rep m z4)) i):=by
 show cond (Nat.ble (x*4+2) (ds++(z4++rep m z4)).length&&true) (some ((wH9 n q a (ds++(z4++rep m z4)) i).put 4 (.cells (setAt (ds++(z4++rep m z4)) (x*4) [.str [112],.sl 8 0 1 (some 1)]) 28 false false))) none=_;have e:setAt (ds++(z4++rep m z4)) (x*4) [.str [112],.sl 8 0 1 (some 1)]=ds++([.str [112],.sl 8 0 1 (some 1),zI 0,.aM]++rep m z4):=by
  rw[← b];exact rD [.str [],.aM] [.str [112],.sl 8 0 1 (some 1)] ds ([zI 0,.aM]++rep m z4) rfl
 rw[e,aW (by simp[b,z4])];rfl
section
variable(W:Fe)(Y:Ge)(X:∀old,Fw old)(Z:∀old,Gw old)
include W Y X Z
theorem Ji{n q p:Nat}(z:n<=1048576):∀(m x:Nat) (ds:List AV) (old:Old),x+m=n->ny old (ds.map FD) ((List.range x).map sI)->AV.dX 0 ds=true->iM old (.aO (some (q,0)) 1 p) [su 1]->
 bO prog E old (wF n x) (wH n q p (ds++rep m z4)) (λold' v=>wI old' v (dB n))
 |0,x,ds,old,h0,s,u,w=>by
  have A:x=n:=by omega
  subst A;have d:(ds.map FD).length=x*4:=by rw[s.len];simp
  refine bO.of (acD W Y old (X old) (Z old) x q p (ds++rep 0 z4) x (aD (by omega))) (aT rfl) ?_;show bO prog E old (wF2 x) (wH x q p (ds++[])) _;rw[bD];refine bO.Bp (id:=4) (vs:=ds) (vs':=ds.map FD) (h':=wH x q p (ds.map FD)) rfl (by simp) (λι F h=>M0 h) (λk o e _=>?_) rfl rfl ?_
  .have g:=gW (f:=λk=>k==0||k==4||k==5) rfl e
   simp only[eD,fK]at g;rcases g with(rfl|rfl)|rfl
   .exact⟨λh=>(by cases h),λ_=>e⟩
   .exact⟨λ_=>(aI e).symm,λh=>aP rfl h⟩
   .exact⟨λh=>(by cases h),λ_=>e⟩
  refine bO.BD (id:=4) (i:=5) (j:=3) (vs:=ds.map FD) (h':=λb c=>⟨zN (zO .e (zL (.cells [.str [113],.aO (some (q,0)) 1 p,zI 1,.aO (some (b,0)) x c] 28 false false))) pI .e,6,0⟩) rfl ?_ rfl (by decide) rfl ?_ (λ_ _=>rfl) (λ_ _=>rfl) ?_
  .intro a B
   obtain⟨b,C,rfl⟩:=bP.1 B;have:=nU u b C;cases b<;>exact this
  .intro b c k o e y
   have g:=gW (f:=λk=>k==0||k==5) rfl e;simp only[eD,fK]at g;rcases g with rfl|rfl
   .exact⟨by decide,λh=>(by cases h),λ_=>e⟩
   .exact⟨by decide,λ_=>(aI e).symm,λh=>aP rfl h⟩
  .intro old' b c l D r
   refine bO.does (acC W Y old' (X old') (Z old') x q p b c) (aT rfl) rfl (qh.low rfl ⟨_,rfl,?_⟩);have g:=know r;rw[d]at g;exact .cons (args:=[su 1]) (w.mono l) (.inl ⟨b,0,c,by simp,by simpa using g⟩) (s.mono l) .nil
 |m+1,x,ds,old,h0,s,u,w=>by
  have d:ds.length=x*4:=by have:=s.len;simpa using this
  have A1:=acE W Y old (X old) (Z old) n q p (ds++rep (m+1) z4) x (ds++([.str [112],.sl 8 0 1 (some 1),zI 0,.aM]++rep m z4)) x rfl (by omega) (OX d x) (aA (by omega));rw[wrapN (by omega)]at A1;refine bO.of A1 (aT rfl) ?_;show bO prog E old (wF n (x+1:Nat)) (wH9 n q p (ds++([.str [112],.sl 8 0 1 (some 1),zI 0,.aM]++rep m z4)) x) _;refine bO.BD (id:=8) (i:=4) (j:=x*4+1) (off:=0) (n:=1) (cap:=some 1) (vs:=fD [su ((↑x:Int).tmod 3)]) (ws:=ds++([.str [112],.sl 8 0 1 (some 1),zI 0,.aM]++rep m z4)) (h':=λb c=>⟨(wH n q p (ds++[.str [112],.aO (some (b,0)) 1 c,zI 0,.aM]++rep m z4)).tr,9,0⟩) rfl (gY _) rfl (by decide) ?_ ?_ (λ_ _=>rfl) (λ_ _=>rfl) ?_
  .rw[← d,aY (by omega),dK];rfl
  .intro b c k o e y
   have g:=gW (f:=λk=>k==0||k==4||k==5) rfl e;simp only[eD,fK]at g;rcases g with(rfl|rfl)|rfl
   .exact⟨by decide,λh=>(by cases h),λ_=>e⟩
   .refine⟨by decide,λ_=>?_,λh=>aP rfl h⟩
    rw[← (aI e)];rw[← d,iJ _ _ (by omega),dK,fC];rfl
   .exact⟨by decide,λh=>(by cases h),λ_=>e⟩
  .intro old' b c l D r
   have t:AV.dX 0 (ds++[.str [112],.aO (some (b,0)) 1 c,zI 0,.aM])=true:=qJ u rfl;refine bO.low (n:=6) (by show 6<=9;decide) (AF.jd rfl) (aaR (qJ t (GZ rfl _))) (λi o e _=>?_) ?_
   .have g:=gW (f:=λk=>k==0||k==4||k==5) rfl e
    simp only[eD,fK]at g;omega
   .refine Ji z m (x+1) _ old' (by omega) ?_ t (w.mono l)
    rw[jY,List.range_succ,jY];refine ny.app (s.mono l) ?_;exact .cons (args:=[su ((↑x:Int).tmod 3)]) (kids:=[]) (oJ r) (.inr ⟨rfl,rfl,rfl⟩) .nil .nil
theorem c5(old:Old)(d:n<=1048576):dU prog E old 5 [zI n] (λold' v=>wI old' v (dB n)):=by
 refine dU.KT (Z old) (by kernel_rfl) (bO.of (acF W Y old (X old) (Z old) n d) (aT rfl) ?_);refine bO.BD (id:=3) (i:=5) (j:=1) (off:=0) (n:=1) (cap:=some 1) (vs:=fD [su 1]) (h':=λb c=>⟨(wH n b c ([]++rep n z4)).tr,6,0⟩) rfl (gY _) rfl (by decide) rfl ?_ (λ_ _=>rfl) (λ_ _=>rfl) ?_
 .intro b c k o e l
  have g:=gW (f:=λk=>k==0||k==4||k==5) rfl e;simp only[eD,fK]at g;rcases g with(rfl|rfl)|rfl
  .exact⟨by decide,λh=>(by cases h),λ_=>e⟩
  .exact⟨by decide,λh=>(by cases h),λ_=>e⟩
  .exact⟨by decide,λ_=>(aI e).symm,λh=>aP rfl h⟩
 .intro old' b c m p a
  exact Ji W Y X Z d n 0 [] old' (by omega) .nil rfl (oJ a)
end
end
section
variable{n:Nat}
def pk(k:Int):PF:=⟨[112],[su k]⟩
theorem P7(a b:Int):FK (pk a) (pk b)=aL a b:=by
 show dQ (kN [112] [112]) (dQ (dQ (aL 1 1) (dQ (aL a b) (kN [] []))) 0)=_;rw[Gl.refl,Gl.refl,Ak.refl];show dQ 0 (dQ (dQ 0 (dQ (aL a b) 0)) 0)=_;have h0:∀z:Int,dQ 0 z=z:=λz=>rfl;have h1:∀z:Int,dQ z 0=z:=λz=>by unfold dQ;split<;>omega
 rw[h0,h1,h0,h1]
theorem Ur{a b:Int}(h:aL a b=0):a=b:=by unfold aL at h;split at h<;>(try split at h)<;>omega
theorem ZG{a b:Int}(h:aL a b<0):a<b:=by unfold aL at h;split at h<;>(try split at h)<;>omega
theorem RH:∀{l:List FC},ZY cfP l->(∀y∈l,∃k:Int,0<=k∧k<=2∧FK y.r (pk k)=0)->
 ∃ks:List Int,ks.length=l.length∧ks.Pairwise (·<·)∧(∀k∈ks,0<=k∧k<=2∧∃y∈l,FK y.r (pk k)=0)∧∀y∈l,∃k∈ks,FK y.r (pk k)=0
 |[],_,_=>⟨[],rfl,List.Pairwise.nil,λk e=>by(cases e),λy m=>by cases m⟩
 |y::l,n,e=>by
  obtain⟨hs1,hs2⟩:=dG.1 n;obtain⟨ks,e1,e2,g,o⟩:=RH hs2 λz c=>e z (bg _ c);obtain⟨k,k0,p,f⟩:=e y (bK ..);refine⟨k::ks,by simp[e1],dG.2 ⟨λj hj=>?_,e2⟩,λj hj=>?_,λz c=>?_⟩
  .obtain⟨_,_,z,c,d⟩:=g j hj
   have h1:FK y.r z.r<0:=hs1 z c;have i:FK (pk k) (pk j)<0:=xY.AJ (xY.EU (iE (xY.zero f)) h1) (iE d);rw[P7]at i;exact ZG i
  .rcases ay.1 hj with rfl|hj
   .exact⟨k0,p,y,bK ..,f⟩
   .obtain⟨a,b,z,c,d⟩:=g j hj
    exact⟨a,b,z,bg _ c,d⟩
  .rcases ay.1 c with rfl|c
   .exact⟨k,bK ..,f⟩
   .obtain⟨j,hj,h⟩:=o z c
    exact⟨j,bg _ hj,h⟩
theorem Vk{ks:List Int}(h1:ks.Pairwise (·<·))(g:∀k∈ks,0<=k∧k<=2)(h:∀j:Int,0<=j->j<=2->j∈ks):ks.length=3:=by
 have e:=h 0 (by omega) (by omega);have f:=h 1 (by omega) (by omega);have i:=h 2 (by omega) (by omega)
 match ks,h1,g,e,f,i with
 |[],_,_,e,_,_=>cases e
 |[a],_,_,e,f,_=>simp at e f;omega
 |[a,b],_,_,e,f,i=>simp at e f i;omega
 |[a,b,c],_,_,_,_,_=>rfl
 |a::b::c::d::l,h1,g,_,_,_=>
  have m:=g a (by simp);have n:=g d (by simp);simp only[dG]at h1;have o:=h1.1 b (by simp);have p:=h1.2.1 c (by simp);have q:=h1.2.2.1 d (by simp);omega
theorem LX(C:3<=n){l f:List FC}(t:l.map FC.r=(List.range n).map λi=>qZ (sI i))(h:acu l f):f.length=3:=by
 have hr:∀y∈l,∃k:Int,0<=k∧k<=2∧y.r=pk k:=λy g=>by
  have c:y.r∈l.map FC.r:=List.mem_map_of_mem g;rw[t]at c;obtain⟨i,_,hi⟩:=bP.1 c;refine⟨(i:Int).tmod 3,?_,?_,hi.symm⟩
  .rw[jl (by omega)];omega
  .rw[jl (by omega)];omega
 obtain⟨w,u⟩:=h;have d:∀y∈f,∃k:Int,0<=k∧k<=2∧FK y.r (pk k)=0:=λy g=>by
  obtain⟨b,a⟩:=NJ HZ g (HZ.refl y);rw[u y]at a;obtain⟨m,o⟩:=Lf a;obtain⟨k,k0,x,e⟩:=hr b m;exact⟨k,k0,x,by rw[← e];exact o⟩
 obtain⟨ks,e1,e2,v,A⟩:=RH w d;rw[← e1];refine Vk e2 (λk d=>⟨(v k d).1,(v k d).2.1⟩) λj D E=>?_;have hj:∃z∈l,z.r=pk j:=by
  have c:pk j∈l.map FC.r:=by
   rw[t];refine bP.2 ⟨j.toNat,cZ.2 (by omega),?_⟩;show(⟨[112],[su ((j.toNat:Int).tmod 3)]⟩:PF)=⟨[112],[su j]⟩;rw[jl (by omega),show((j.toNat:Int) % 3)=j by omega]
  obtain⟨z,p,e⟩:=bP.1 c;exact⟨z,p,e⟩
 obtain⟨z,p,B⟩:=hj;obtain⟨b,a⟩:=NJ HZ p (HZ.refl z);rw[← u z]at a;obtain⟨m,o⟩:=Lf a;obtain⟨k,q,s⟩:=A b m;have:FK (pk j) (pk k)=0:=by rw[← B];exact xY.eq_trans o s
 rw[P7]at this;rw[Ur this];exact q
theorem qp(n:Nat):(dB n).kids=(List.range n).map sI:=rfl
theorem QO(n:Nat):∀u∈(dB n).kids,u.kids=[]:=λu a=>by
 obtain⟨i,_,rfl⟩:=bP.1 a;rfl
theorem qo(n:Nat):(dB n).size=n+1:=by
 rw[nG,tL _ (QO n),qp,bH,gN]
theorem LY(n:Nat):Db (dB n).size [dB n]=dB n::(dB n).kids:=Od (QO n)
theorem OY(n:Nat):((Db (dB n).size [dB n]).filter nW).map qZ=(List.range n).map λi=>qZ (sI i):=by
 rw[LY,kJ,show nW (dB n)=false from rfl,qp,au (by decide),List.filter_map,List.map_map];have:(List.range n).filter (nW∘sI)=List.range n:=List.filter_eq_self.2 λi _=>rfl;rw[this];rfl
theorem Te(n:Nat):∀u∈Db (dB n).size [dB n],u.args≠[]∧u.args.length<=268435456:=λu a=>by
 rw[LY]at a;rcases ay.1 a with rfl|a
 .exact⟨by simp[dB,T.args],by simp[dB,T.args]⟩
 .obtain⟨i,_,rfl⟩:=bP.1 a
  exact⟨by simp[sI,T.args],by simp[sI,T.args]⟩
end
section
variable{cs:List AV}{n:Nat}{v:AV}
section
variable(W:Fe)(Y:Ge)(X:∀old,Fw old)(Z:∀old,Gw old)
include W Y X Z
theorem c7w(old:Old)(a:wI old v (dB n))(b:n<=65535):dU prog E old 7 [v] (λ_ w=>w=zI (n+1:Nat)):=by
 have:=c7 W Y X Z old a (by rw[qo];omega);rw[qo]at this;exact this
theorem c8w(old:Old)(a:wI old v (dB n))(c:n<=65535):dU prog E old 8 [v] (λ_ w=>w=zI 1):=
 c8 W Y X Z old a (by rw[qo];omega) rfl λu b=>by obtain⟨i,_,rfl⟩:=bP.1 b;rfl
theorem c9w(old:Old)(d:wI old v (dB n))(e:3<=n)(g:n<=65535):dU prog E old 9 [v] (λ_ w=>∃a c,w= .aO a 3 c):=by
 refine dU.mono (c9 W Y X Z old d (by rw[qo];omega) (Te n)) λold' w _ ⟨l,i,e1,e2,f⟩=>?_;rw[OY]at e1;have h:=LX e e1 f;rcases e2.1 with⟨b,o,c,rfl,_⟩|⟨_,h0,_⟩
 .rw[h];exact⟨_,_,rfl⟩
 .omega
end
structure LN where
 rel:List UInt8
 args:List PV
 rule:Int
 kids:List Int
inductive Aw(old:Old):List AV->List LN->Prop
 |nil:Aw old [] []
 |cons {a k:AV} {cs:List AV} {r:LN} {l:List LN}:iM old a r.args->vv old k r.kids.length 1 (r.kids.map zI)->Aw old cs l->Aw old (.str r.rel::a::zI r.rule::k::cs) (r::l)
def Dv(old:Old)(v:AV)(l:List LN):Prop:=∃cs,vv old v l.length 4 cs∧Aw old cs l
theorem Aw.len{old:Old}{l:List LN}(h:Aw old cs l):cs.length=l.length*4:=by
 induction h with
 |nil=>rfl
 |cons _ _ _ a=>simp only[gI];omega
theorem Aw.mono{old old':Old}(c:Old.le old old'){cs:List AV}{l:List LN}(h:Aw old cs l):Aw old' cs l:=by
 induction h with
 |nil=>exact .nil
 |cons a b _ d=>exact .cons (a.mono c) (vv.mono c b) d
theorem Aw.app{old:Old}{ds:List AV}{l m:List LN}(h:Aw old cs l)(H:Aw old ds m):Aw old (cs++ds) (l++m):=by
 induction h with
 |nil=>exact H
 |cons a b _ c=>exact .cons a b c
theorem qI{old:Old}{z:Nat}(h:vv old v n z cs):AV.low 0 v=true:=by
 rcases h with⟨b,o,c,rfl,_⟩|⟨rfl,_⟩<;>rfl
theorem Aw.low{old:Old}{cs:List AV}{l:List LN}(h:Aw old cs l):AV.dX 0 cs=true:=by
 induction h with
 |nil=>rfl
 |cons a b _ c=>
  show(true&&(AV.low 0 _&&(true&&(AV.low 0 _&&_))))=true;rw[qI a,qI b,c];rfl
theorem Aw.at{old:Old}{b:Nat}:∀{cs:List AV} {l:List LN} {o:Nat},Aw old cs l->iI old b o (l.length*4)=some cs->∀{j:Nat} {r:LN},l[j]? =some r->∃a k,iI old b (o+j*4) 4=some [.str r.rel,a,zI r.rule,k]∧iM old a r.args∧vv old k r.kids.length 1 (r.kids.map zI)
 |_,_,o,.nil,h,j,t,hj=>by cases hj
 |_,_,o,.cons (r:=r') (a:=a) (k:=k) (cs:=cs) (l:=l) h1 d f,h,j,t,hj=>by
  rw[gI,kF,Nat.one_mul,Nat.add_comm (l.length*4) 4]at h;obtain⟨g,i,e,m,e1,e2⟩:=rG h;obtain⟨n,p⟩:=List.append_inj (s₁:=[AV.str r'.rel,a,zI r'.rule,k]) (t₁:=cs) (s₂:=g) (t₂:=i) e (by rw[m];rfl);subst n;subst p;cases j with
  |zero=>
   cases hj;exact⟨_,_,by rw[jJ,Nat.add_zero];exact e1,h1,d⟩
  |succ j=>
   obtain⟨c,q,k1,s⟩:=Aw.at f e2 (j:=j) (by simpa using hj);exact⟨c,q,by rw[show o+(j+1)*4=o+4+j*4 by omega];exact k1,s⟩
end
section
variable{L:List LN}{cs:List AV}{lb lc lo x:Nat}
def mn(z:Int):Int:=bif decide (65537<z)then 65537 else z
def DV(i:Nat):List Int->List Int->Option (List Int)
 |out,[]=>some out
 |out,k::ks=>if k<0∨(i:Int)<=k then none else DV i (out.set i (mn (out[i]?.getD 0+out[k.toNat]?.getD 0))) ks
def UW:Nat->List LN->List Int->Option (List Int)
 |_,[],out=>some out
 |i,l::a,out=>match DV i (out.set i 1) l.kids with |none=>none|some o=>UW (i+1) a o
def SzQ(L:List LN)(old:Old)(v:AV):Prop:=match UW 0 L (List.replicate L.length 0)with
 |none=>v= .bV [.aM,.bool false]
 |some out=>∃b c,v= .bV [.aO (some (b,0)) L.length c,.bool true]∧iI old b 0 L.length=some (out.map zI)
def bnd(n:Nat)(o:List Int):Prop:=o.length=n∧∀v∈o,0<=v∧v<=65537
theorem bnd.set{n:Nat}{o:List Int}(h:bnd n o){i:Nat}{v:Int}(h0:0<=v)(h1:v<=65537):bnd n (o.set i v):=
 ⟨by rw[lg];exact h.1,λw b=>by
  rcases List.mem_or_eq_of_mem_set b with a|a
  .exact h.2 w a
  .subst a;exact⟨h0,h1⟩⟩
theorem Rk:∀n:Nat,rep n [zI 0]=(List.replicate n (0:Int)).map zI
 |0=>rfl
 |n+1=>by
  rw[List.replicate_succ,lW,← Rk n];rfl
theorem O6{o:List Int}{v:Int}(a:x<o.length):dD ⟨zL (.cells (o.map zI) 3 false false),1,0⟩ 0 (x*1) [zI v]=some ⟨zL (.cells ((o.set x v).map zI) 3 false false),1,0⟩:=
 (gD (l:=o.map zI) rfl (by rw[bH];simp;omega) rfl).trans (by rw[bW,List.map_set];rfl)
noncomputable def szF(l:AV)(a lo n lc:Nat)(i:Int):AF:=(OE (zI ((↑n:Int))) l (.aO (some (a,lo)) n lc) (zI i))
noncomputable def szI(b lo n lc:Nat)(i:Int)(pk:Option (Nat×Nat))(a c:Nat)(j:Int):AF:=(Iz (.aO pk a c) (zI j) (zI i) (zI ((↑n:Int))) (zI ((↑a:Int))) (.sl 0 0 n (some n)) (.aO (some (b,lo)) n lc) (zI i))
section
variable(W:Fe)(Y:Ge)(X:∀old,Fw old)(Z:∀old,Gw old)
include W Y X Z
theorem aaf{Q:Old->AV->Prop}{old:Old}{i lo n lc x m:Nat}{pk:Option (Nat×Nat)}{b:List Int}(K:n<=1048576)(p:x<n)(q:b.length<=268435456)(H:∀y a,b[y]? =some a->∃j l,pk=some (j,l)∧∀h:AH,loadT (E.wo old) h 3 (OLD+j) (l+y*1)=some (zI a)):
 ∀(r y:Nat) (o:List Int),y+r=b.length->bnd n o->(DV x o (b.drop y)=none->Q old Ya7)->
 (∀s,DV x o (b.drop y)=some s->bnd n s->bO prog E old (szF (.sl 0 0 n (some n)) i lo n lc (x+1:Nat)) ⟨zL (.cells (s.map zI) 3 false false),1,0⟩ Q)->
 bO prog E old (szI i lo n lc x pk b.length m y) ⟨zL (.cells (o.map zI) 3 false false),1,0⟩ Q
 |0,y,o,t,g,d,f=>by
  have t:y=b.length:=by omega
  subst t;rw[List.drop_length]at f;have A:=sz4 W Y old (X old) (Z old) i lo n lc (o.map zI) x pk b.length m b.length (aD (by omega));rw[wrapN (by omega)]at A;exact bO.of A (aT rfl) (f o rfl g)
 |r+1,y,o,t,g,d,f=>by
  have c:y<b.length:=by omega
  obtain⟨a,I⟩:∃k,b[y]? =some k:=⟨_,aK c⟩;have B:b.drop y=a::b.drop (y+1):=by rw[bL c,aI ((aK c).symm.trans I)]
  obtain⟨j,l,rfl,C⟩:=H y a I;rw[B]at d f;have e:DV x o (a::b.drop (y+1))=if a<0∨(x:Int)<=a then none else DV x (o.set x (mn (o[x]?.getD 0+o[a.toNat]?.getD 0))) (b.drop (y+1)):=rfl;rw[e]at d f;by_cases h1:a<0
  .rw[aH (.inl h1)]at d
   exact bO.does (afK W Y old (X old) (Z old) i lo n lc (o.map zI) x j l b.length m y y rfl c a C (aA (by omega)) (aA h1)) (aT rfl) rfl (qh.low rfl (d rfl))
  by_cases J:(x:Int)<=a
  .rw[aH (.inr J)]at d
   exact bO.does (afJ W Y old (X old) (Z old) i lo n lc (o.map zI) x j l b.length m y y rfl c a C (aA (by omega)) (aD h1) (aA J)) (aT rfl) rfl (qh.low rfl (d rfl))
  rw[au (by omega)]at d f;obtain⟨z,rfl⟩:∃z:Nat,a=z:=⟨a.toNat,by omega⟩;rw[bN]at d f;obtain⟨u,D⟩:∃u,o[x]? =some u:=⟨_,aK (by rw[g.1];exact p)⟩;obtain⟨v,F⟩:∃v,o[z]? =some v:=⟨_,aK (by rw[g.1];omega)⟩;have M:=g.2 u (bE D);have N:=g.2 v (bE F);rw[D,F]at d f;have w:IntKind.i64.wrap (u+v)=u+v:=dW (by omega) (by omega);have A:=sz2 W Y old (X old) (Z old) i lo n lc (o.map zI) x j l b.length m y y rfl c z C x z rfl p rfl (by omega) u v
   (λh G=>lD (by kernel_rfl) rfl G (by rw[bW,eu,D];rfl)) (λh G=>lD (by kernel_rfl) rfl G (by rw[bW,eu,F];rfl))
   ((o.set x (mn (u+v))).map zI) (u+v) w (by rw[w];exact O6 (by rw[g.1];exact p)) (aA (by omega)) (aD h1) (aD (by omega))
  rw[wrapN (by omega)]at A;refine bO.of A (aT rfl) ?_;refine aaf K p q H r (y+1) _ (by omega) (g.set ?_ ?_) d f
  .unfold mn;cases decide (65537<u+v)<;>simp<;>omega
  .unfold mn;cases L:decide (65537<u+v)<;>simp at L ⊢<;>omega
theorem Vl{old:Old}{p lo lc:Nat}{L:List LN}{cs:List AV}(J:Aw old cs L)(K:iI old p lo (L.length*4)=some cs)(M:L.length<=1048576)(N:∀l∈L,l.kids.length<=268435456):
 ∀(r x:Nat) (o:List Int),x+r=L.length->bnd L.length o->UW x (L.drop x) o=UW 0 L (List.replicate L.length 0)->
 bO prog E old (szF (.sl 0 0 L.length (some L.length)) p lo L.length lc x) ⟨zL (.cells (o.map zI) 3 false false),1,0⟩ (SzQ L)
 |0,x,o,B,v,d=>by
  have B:x=L.length:=by omega
  subst B;rw[List.drop_length]at d;have d:UW 0 L (List.replicate L.length 0)=some o:=d.symm;have q:∀a∈o.map zI,AV.low 0 a=true:=λa C=>by obtain⟨z,_,rfl⟩:=bP.1 C;rfl
  refine bO.Zj (k:=4) (id:=0) (h':=⟨.e,1,0⟩) rfl q rfl (λi o e _=>by rw[show(Tr.e:Tr AO).get i=none from Tr.dN i]at e;cases e) rfl rfl ?_;intro f b c O V D;refine bO.low (n:=0) (bT _) (AF.jd rfl) rfl (λi o e _=>by rw[show(Tr.e:Tr AO).get i=none from Tr.dN i]at e;cases e) ?_;refine bO.does (sz5 W Y f (X f) (Z f) p lo L.length lc L.length b c (aD (by omega))) (aT rfl) rfl (qh.low rfl ?_);unfold SzQ;rw[d];refine⟨b,c,rfl,?_⟩;have:=know D;rw[bH,v.1]at this;exact this
 |r+1,x,o,B,v,d=>by
  have g:x<L.length:=by omega
  obtain⟨ln,F⟩:∃l,L[x]? =some l:=⟨_,aK g⟩;have G:L.drop x=ln::L.drop (x+1):=by rw[bL g,aI ((aK g).symm.trans F)]
  obtain⟨a,k,e1,e2,P⟩:=J.at K F;obtain⟨Q,R,S,rfl⟩:=e2.shape;obtain⟨pk,m,rfl,T⟩:∃pk m,k= .aO pk ln.kids.length m∧∀y j,ln.kids[y]? =some j->∃s u,pk=some (s,u)∧∀h:AH,loadT (E.wo old) h 3 (OLD+s) (u+y*1)=some (zI j):=by
   rcases P with⟨s,u,m,rfl,h⟩|⟨rfl,h0,_⟩
   .refine⟨some (s,u),m,rfl,λy j w=>⟨s,u,rfl,λh'=>gB (by kernel_rfl) ?_⟩⟩
    rw[bW];exact iY h (by rw[eu,w];rfl)
   .have h0:ln.kids=[]:=bB.1 h0
    exact⟨none,0,by rw[h0];rfl,λy j w=>by rw[h0]at w;simp at w⟩
  have A:=sz1 W Y old (X old) (Z old) p lo L.length lc (o.map zI) x x rfl g ln.rel Q R S ln.rule pk ln.kids.length m
   (λh=>rR (E:=E.wo old) (t:=65) (ti:=(E.tt.get 65).getD default) (by kernel_rfl) (by kernel_rfl) (by rw[show((E.tt.get 65).getD default).size=4 by kernel_rfl];exact e1))
   ((o.set x 1).map zI) ((gD (l:=o.map zI) rfl (by rw[bH,v.1];simp;omega) rfl).trans (by rw[bW,List.map_set];rfl)) (aA (by omega))
  refine bO.of A (aT rfl) ?_;refine bO.only (f':=szI p lo L.length lc x pk ln.kids.length m 0) (k:=0) ?_ rfl rfl (AF.jd rfl) (kU λa C=>by obtain⟨z,_,rfl⟩:=bP.1 C;rfl) rfl;rw[G]at d;have H:bnd L.length (o.set x 1):=v.set (by omega) (by omega);have e:UW x (ln::L.drop (x+1)) o=match DV x (o.set x 1) ln.kids with |none=>none|some o=>UW (x+1) (L.drop (x+1)) o:=rfl
  rw[e]at d;refine aaf W Y X Z M g (N ln (bE F)) T ln.kids.length 0 _ (by omega) H (λh=>?_) (λU h I=>?_)
  .rw[fP]at h
   rw[h]at d;unfold SzQ;rw[← d]
  .rw[fP]at h
   rw[h]at d;exact Vl J K M N r (x+1) U (by omega) I d
theorem c35{old:Old}(b:Aw old cs L)(c:iI old lb lo (L.length*4)=some cs)(a:L.length<=1048576)(d:∀l∈L,l.kids.length<=268435456):
 dU prog E old 35 [.aO (some (lb,lo)) L.length lc] (SzQ L):=by
 refine dU.KT (Z old) (by kernel_rfl) (bO.of (sz0 W Y old (X old) (Z old) lb lo L.length lc a) (aT rfl) ?_);have h:=Vl W Y X Z (lc:=lc) b c a d L.length 0 (List.replicate L.length 0) (by omega) ⟨List.length_replicate ..,λv e=>by rw[List.eq_of_mem_replicate e];exact⟨by omega,by omega⟩⟩ (by rw[fP]);rw[← Rk]at h;exact h
end
end
section
variable(Y:Fe)(Z:Ge)
include Y Z
section
variable(X:Old)(F:Fw X)(W:Gw X)
include X F W
theorem db0(n:Nat):DS X (ent (E.wo X) 13 [zI n]) ⟨.e,0,0⟩ (Ov (.sl 3 0 1 (some 1)) (zI (↑n:Int)) (zI 1)) (iK (.cells [.str [112],.sl 2 0 1 (some 1),zI 0,.aM] 65 false false) UC acr UC):=
 jK F W [0,2,3,4] (Qk 6 (DoesC.of_run F W (n:=3000) (p:=((.agg [.str [112],.sl 2 0 1 (some 1)]),(bG UC acr UC))) (by kernel_rfl):DC X 16 [.str [112],zI 0] ⟨.e,0,0⟩ (.agg [.str [112],.sl 2 0 1 (some 1)]) (bG UC acr UC)) (Qn 11)) (by kernel_rfl)
theorem db1(n m:Nat)(i:Int)(vs:List AV)(g:Bool)(a:Option Nat)(b:AH)(c:jv (E.wo X) (lX (LB i) IB afy (.cells vs 65 g false) (.cells [zI (IntKind.i64.wrap (i - 1)),zI (IntKind.i64.wrap (i - 1))] 3 false false) (LB i)) .append [.sl 0 0 m a,.sl 5 0 1 (some 1)] [30,30]=some (.val (.sl 6 0 (m+1) none) b))(d:(decide (i<(↑n:Int)))=true):DS X (Ov (.sl 0 0 m a) (zI (↑n:Int)) (zI i)) (aC (.cells vs 65 g false)) (Ov (.sl 6 0 (m+1) none) (zI (↑n:Int)) (zI (IntKind.i64.wrap (i+1)))) b:=
 jK F W [0,2,3,4] (Qb 5 d (Qk 8 (DoesC.of_run F W (n:=3000) (p:=(Jf,(iK (LB i) IB (.cells vs 65 g false) (LB i)))) (by kernel_rfl):DC X 16 [.str [113],zI i] (aC (.cells vs 65 g false)) Jf (iK (LB i) IB (.cells vs 65 g false) (LB i))) (Ql 7 c (Qn 9)))) (by kernel_rfl)
theorem db2(n m:Nat)(i:Int)(b c:Nat)(a:(decide (i<(↑n:Int)))=false):DR X (Ov (.aO (some (b,0)) m c) (zI (↑n:Int)) (zI i)) ⟨.e,0,0⟩ (.aO (some (b,0)) m c) ⟨.e,0,0⟩:=
 prt F W (Qb 5 a (Qn 9)) (by kernel_rfl)
end
end
section
variable{n:Nat}
def lnD:Nat->LN
 |0=>⟨[112],[su 0],0,[]⟩
 |i+1=>⟨[113],[su (i+1:Nat)],1,[(i:Int),(i:Int)]⟩
def yB(n:Nat):List LN:=(List.range n).map lnD
noncomputable def dF(l:AV)(n:Nat)(i:Int):AF:=(Ov l (zI ((↑n:Int))) (zI i))
section
variable(W:Fe)(Y:Ge)(X:∀old,Fw old)(Z:∀old,Gw old)
include W Y X Z
theorem Sj{n:Nat}(O:n<=65536):∀(r m:Nat) (old:Old) (vs:List AV) (t:Option Nat) (g:Bool),m+r=n->0<m->Aw old (vs.map FD) (yB m)->AV.dX 0 vs=true->Bc t g m->
 bO prog E old (dF (.sl 0 0 m t) n m) ⟨zL (.cells vs 65 g false),1,0⟩ (λold' v=>Dv old' v (yB n))
 |0,m,old,vs,t,g,P,h0,u,J,hr=>by
  obtain rfl:m=n:=by omega
  have d:vs.length=m*4:=by have:=u.len;simpa[yB]using this
  refine bO.Bp (id:=0) (vs:=vs) (vs':=vs.map FD) (h':=⟨zL (.cells (vs.map FD) 65 g false),1,0⟩) rfl (by simp) (λι us h=>M0 h) (λk o e _=>by obtain⟨rfl,rfl⟩:=pW e;exact⟨λ_=>rfl,λh=>aP rfl h⟩) rfl rfl ?_;refine bO.Zj (k:=3) (id:=0) (h':=⟨.e,1,0⟩) rfl (nU u.low) rfl (λi o e _=>by rw[show(Tr.e:Tr AO).get i=none from Tr.dN i]at e;cases e) rfl rfl ?_;intro l b c F hc G;refine bO.low (n:=0) (bT _) (AF.jd rfl) rfl (λi o e _=>by rw[show(Tr.e:Tr AO).get i=none from Tr.dN i]at e;cases e) ?_;refine bO.does (db2 W Y l (X l) (Z l) m m m b c (aD (by omega))) (aT rfl) rfl (qh.low rfl ⟨vs.map FD,.inl ⟨b,0,c,by simp[yB],?_⟩,u.mono F⟩);have:=know G;rw[bH,d]at this;simpa[yB]using this
 |r+1,m,old,vs,t,g,P,h0,u,J,hr=>by
  have d:vs.length=m*4:=by have:=u.len;simpa[yB]using this
  have w1:IntKind.i64.wrap ((m:Int) - 1)=((m - 1:Nat):Int):=by rw[dW (by omega) (by omega)];omega
  have step:∀p:AH,jv (E.wo old) (lX (LB m) IB afy (.cells vs 65 g false) (.cells [zI (IntKind.i64.wrap ((m:Int) - 1)),zI (IntKind.i64.wrap ((m:Int) - 1))] 3 false false) (LB m)) .append [.sl 0 0 m t,.sl 5 0 1 (some 1)] [30,30]=some (.val (.sl 6 0 (m+1) none) p)->
   p.tr.get 3=some (LB m)->p.tr.get 4=some (.cells [zI ((m - 1:Nat):Int),zI ((m - 1:Nat):Int)] 3 false false)->p.tr.get 6=some (.cells (vs++[.str [113],.sl 3 0 1 (some 1),zI 1,.sl 4 0 2 (some 2)]) 65 true false)->p.nx=7->p.df=0->
   bO prog E old (dF (.sl 0 0 m t) n m) ⟨zL (.cells vs 65 g false),1,0⟩ (λold' v=>Dv old' v (yB n)):=by
   intro p Q R S T w H;have A:=db1 W Y old (X old) (Z old) n m m vs g t p Q (aA (by omega));rw[wrapN (by omega)]at A;refine bO.of A (by rw[w];exact aT rfl) ?_;have U:AV.dX 0 (vs.map FD)=true:=u.low;refine bO.BD (id:=3) (i:=6) (j:=m*4+1) (off:=0) (n:=1) (cap:=some 1) (vs:=fD [su m]) (h':=λb c=>⟨.n .e none (.n (zL (.cells [zI ((m - 1:Nat):Int),zI ((m - 1:Nat):Int)] 3 false false)) none (zL (.cells (vs++[.str [113],.aO (some (b,0)) 1 c,zI 1,.sl 4 0 2 (some 2)]) 65 true false))),7,0⟩) R (gY _) T (by decide) ?_ ?_ (λ_ _=>w.symm) (λ_ _=>H.symm) ?_
   .rw[← d,aY (by omega),dK];rfl
   .intro b c k o e I
    have x:=gW (f:=λk=>k==4||k==6) rfl e;simp only[eD,fK]at x;rcases x with rfl|rfl
    .refine⟨by decide,λh=>(by cases h),λ_=>?_⟩
     rw[S];exact e
    .refine⟨by decide,λ_=>?_,λh=>aP rfl h⟩
     rw[← (aI e),← d,iJ _ _ (by omega),dK];rfl
   intro l K L y V z;refine bO.BD (id:=4) (i:=6) (j:=m*4+3) (off:=0) (n:=2) (cap:=some 2) (vs:=[zI ((m - 1:Nat):Int),zI ((m - 1:Nat):Int)]) (h':=λb c=>⟨.n .e none (.n .e none (zL (.cells (vs++[.str [113],.aO (some (K,0)) 1 L,zI 1,.aO (some (b,0)) 2 c]) 65 true false))),7,0⟩) rfl (λa B=>by simp only[ay,aB,bn]at B;rcases B with rfl|rfl<;>rfl) rfl (by decide) ?_ ?_ (λ_ _=>rfl) (λ_ _=>rfl) ?_
   .rw[← d,aY (by omega),dK];rfl
   .intro b c k o e I
    have x:=gW (f:=λk=>k==6) rfl e;simp only[fK]at x;subst x;refine⟨by decide,λ_=>?_,λh=>aP rfl h⟩;rw[← (aI e),← d,iJ _ _ (by omega),dK];rfl
   intro C M N q hc2 D;have s:AV.dX 0 (vs++[.str [113],.aO (some (K,0)) 1 L,zI 1,.aO (some (M,0)) 2 N])=true:=qJ J rfl;refine bO.only (f':=dF (.sl 0 0 (m+1) none) n (m+1:Nat)) (k:=6) ?_ rfl rfl (AF.jd rfl) s rfl;refine Sj O r (m+1) C _ none true (by omega) (Nat.succ_pos _) ?_ s (.inl ⟨rfl,rfl⟩);obtain⟨k,rfl⟩:∃k,m=k+1:=⟨m - 1,by omega⟩;have e:yB (k+1+1)=yB (k+1)++[lnD (k+1)]:=by simp[yB,List.range_succ]
   rw[e,jY];refine((u.mono y).mono q).app ?_;exact .cons (r:=lnD (k+1)) ((oJ z).mono q) (.inl ⟨M,0,N,rfl,know D⟩) .nil
  have B:FN (E.wo old) 30 30=some (65,4):=by kernel_rfl
  rcases hr with⟨rfl,rfl⟩|⟨rfl,rfl⟩
  .exact step _ (rM B rfl (by omega) (by omega) rfl rfl rfl) rfl (by rw[← w1];rfl) rfl rfl rfl
  .exact step _ (vR (vs:=vs) B (by show takeN vs 0 (m*4)=some vs;rw[← d];exact zR vs) (by omega) rfl) rfl (by rw[← w1];rfl) rfl rfl rfl
theorem c13(old:Old)(h0:0<n)(l:n<=65536):dU prog E old 13 [zI n] (λold' v=>Dv old' v (yB n)):=by
 refine dU.KT (Z old) (by kernel_rfl) (bO.of (db0 W Y old (X old) (Z old) n) (aT rfl) ?_);refine bO.BD (id:=2) (i:=3) (j:=1) (off:=0) (n:=1) (cap:=some 1) (vs:=fD [su 0]) (h':=λb c=>⟨.n (.n (zL (.cells [.str [112],.aO (some (b,0)) 1 c,zI 0,.aM] 65 false false)) none .e) none .e,4,0⟩) rfl (gY _) rfl (by decide) rfl ?_ (λ_ _=>rfl) (λ_ _=>rfl) ?_
 .intro b c k o e m
  have g:=gW (f:=λk=>k==3) rfl e;simp only[fK]at g;subst g;exact⟨by decide,λ_=>(aI e).symm,λh=>aP rfl h⟩
 intro a b c p q d;refine bO.only (f':=dF (.sl 0 0 1 (some 1)) n 1) (k:=3) ?_ rfl rfl (AF.jd rfl) (vs:=[.str [112],.aO (some (b,0)) 1 c,zI 0,.aM]) rfl rfl;exact Sj W Y X Z l (n - 1) 1 a _ (some 1) false (by omega) (by omega) (.cons (r:=lnD 0) (oJ d) (.inr ⟨rfl,rfl,rfl⟩) .nil) rfl (.inr ⟨rfl,rfl⟩)
end
end
theorem WT:(UW 0 (yB 64) (List.replicate 64 0)).map (λo=>(o[63]?,o[15]?))=some (some 65537,some 65535):=by kernel_rfl
def UU(n:Nat):List LN:=[⟨[112],[su 0],0,[]⟩,⟨[112],[su 1],0,[]⟩,⟨[112],[su 2],0,[]⟩,⟨[113],[su 1],1,(List.range n).map λi=>((i % 3:Nat):Int)⟩]
theorem Jk:∀(ks:List Int) (s:Int),(∀k∈ks,0<=k∧k<=2)->s+ks.length<=65537->DV 3 [1,1,1,s] ks=some [1,1,1,s+ks.length]
 |[],s,_,_=>by simp[DV]
 |k::ks,s,h,b=>by
  obtain⟨h0,a⟩:=h k (bK ..);have c:s+(ks.length+1:Nat)<=65537:=b;have e:DV 3 [1,1,1,s] (k::ks)=if k<0∨((3:Nat):Int)<=k then none else DV 3 (([1,1,1,s]:List Int).set 3 (mn (([1,1,1,s]:List Int)[3]?.getD 0+([1,1,1,s]:List Int)[k.toNat]?.getD 0))) ks:=rfl;rw[e,au (by omega)];have d:([1,1,1,s]:List Int)[k.toNat]?.getD 0=1:=by
   obtain⟨z,rfl⟩:∃z:Nat,k=z:=⟨k.toNat,by omega⟩;rw[bN]
   match z,a with
   |0,_=>rfl
   |1,_=>rfl
   |2,_=>rfl
   |n+3,a=>omega
  rw[d];have f:mn (s+1)=s+1:=by
   unfold mn;rw[aD (by omega)];rfl
  show DV 3 [1,1,1,mn (s+1)] ks=_;rw[f,Jk ks (s+1) (λj hj=>h j (bg _ hj)) (by omega)];have:s+1+(ks.length:Int)=s+((k::ks).length:Int):=by rw[gI];omega
  rw[this]
theorem U8{n:Nat}(b:n<=65535):UW 0 (UU n) (List.replicate 4 0)=(some [1,1,1,1+(n:Int)]:Option (List Int)):=by
 have h:=Jk ((List.range n).map λi=>((i % 3:Nat):Int)) 1 (λk a=>by
  obtain⟨i,_,rfl⟩:=bP.1 a;omega) (by rw[bH,gN];omega)
 rw[bH,gN]at h;show(match DV 3 [1,1,1,1] ((List.range n).map λi=>((i % 3:Nat):Int))with |none=>(none:Option (List Int))|some o=>some o)=_;rw[h]
section
variable{S:List AV}{cp:Option Nat}{e t:TypeId}{i id n x:Nat}
def qA(L:List LN):Nat->Nat->T
 |0,_=> .node [] [] 0 []
 |f+1,i=>match L[i]? with
  |some l=> .node l.rel l.args l.rule (l.kids.map λk=>qA L f k.toNat)
  |none=> .node [] [] 0 []
def OkL(L:List LN):Nat->Nat->Prop
 |0,_=>False
 |f+1,i=>∃l,L[i]? =some l∧∀k∈l.kids,0<=k∧OkL L f k.toNat
def tJ(a:Option Nat)(g:Bool)(S:List AV)(len:Nat):Prop:=(a=none∧g=true∧2*len<=S.length)∨(a=some 1∧g=false∧S.length=2∧len<=1)
theorem tJ.pop{g:Bool}{w:Nat}(h:tJ cp g S (w+1)):tJ cp g S w:=by
 rcases h with⟨a,b,c⟩|⟨a,b,c,d⟩
 .exact .inl ⟨a,b,by omega⟩
 .exact .inr ⟨a,b,c,by omega⟩
theorem Jo{E:Env}{z:Nat}(b:E.d t=some (.slice e))(f:(E.tt.get e).map (·.size)=some z){c:Nat}{k:Int}(g:k=(↑x:Int))(j:x<=c):iN E t (.sl id 0 n (some c)) none (some (zI k)) none=some (.sl id 0 x (some c)):=by
 subst g;obtain⟨a,h,rfl⟩:=aN.1 f;unfold iN;rw[b];show(match E.tt.get e,BK none c c with
  |some a,some m=>pX id 0 a.size n m none (some (zI ↑x)) false
  |_,_=>none)=_
 rw[h];show pX id 0 a.size n c none (some (zI ↑x)) false=_;unfold pX;have i:Uh (some (zI (↑x:Int))) c n false=some x:=by
  show cond (decide (((0:Nat):Int)<=(↑x:Int)∧(↑x:Int)<=c)) (some (↑x:Int).toNat) none=_;rw[aA ⟨by omega,by omega⟩,bN];rfl
 rw[i];show some (AV.sl id (cond (Nat.beq c 0) 0 (0+0*a.size)) (x - 0) (some (c - 0)))=_;rw[jJ];cases Nat.beq c 0<;>rfl
theorem Jm{E:Env}{g:Bool}{w:Nat}(h:tJ cp g S (w+1))(a:E.d 169=some (.slice 168))(b:(E.tt.get 168).map (·.size)=some 2){i:Int}(hi:i=(↑w:Int)):iN E 169 (.sl 0 0 (w+1) cp) none (some (zI i)) none=some (.sl 0 0 w cp):=by
 rcases h with⟨rfl,_,_⟩|⟨rfl,_,_,d⟩
 .exact Gz a b hi (by omega)
 .exact Jo a b hi (by omega)
theorem LW(n:Nat):qA (UU n) 2 3=dB n:=by
 show T.node [113] [su 1] 1 (((List.range n).map λi=>((i % 3:Nat):Int)).map λk=>qA (UU n) 1 k.toNat)=_;rw[List.map_map];unfold dB;congr 1;apply List.map_congr_left;intro i _;show qA (UU n) 1 (((i % 3:Nat):Int)).toNat=sI i;rw[bN];have b:(i:Int).tmod 3=((i % 3:Nat):Int):=by rw[jl (by omega)];omega
 have a:i % 3<3:=Nat.mod_lt _ (by decide);unfold sI;rw[b]
 match i % 3,a with
 |0,_=>rfl
 |1,_=>rfl
 |2,_=>rfl
theorem U6(n:Nat):OkL (UU n) 2 3:=by
 refine⟨_,rfl,λk a=>?_⟩;obtain⟨i,_,rfl⟩:=bP.1 a;refine⟨by omega,?_⟩;rw[bN];have b:i % 3<3:=Nat.mod_lt _ (by decide)
 match i % 3,b with
 |0,_=>exact⟨_,rfl,λk a=>by cases a⟩
 |1,_=>exact⟨_,rfl,λk a=>by cases a⟩
 |2,_=>exact⟨_,rfl,λk a=>by cases a⟩
theorem Gj(h:i<n):(yB n)[i]? =some (lnD i):=by simp[yB,h]
theorem WU{n:Nat}:∀i,i<n->OkL (yB n) (i+1) i
 |0,h=>⟨_,Gj h,λk a=>by cases a⟩
 |i+1,h=>⟨_,Gj h,λk a=>by
  have:k=(i:Int):=by simp[lnD]at a;exact a
  subst this;exact⟨by omega,by rw[bN];exact WU i (by omega)⟩⟩
theorem Si{n:Nat}:∀(i f:Nat),i<n->i<f->(qA (yB n) f i).size+1=2 ^ (i+1)
 |0,f+1,a,b=>by
  have e:qA (yB n) (f+1) 0= .node [112] [su 0] 0 []:=by
   show(match(yB n)[0]? with |some (l:LN)=>T.node l.rel l.args l.rule (l.kids.map λ(k:Int)=>qA (yB n) f k.toNat)|none=> .node [] [] 0 [])=_;rw[Gj a];rfl
  rw[e];rfl
 |i+1,f+1,a,b=>by
  have c:=Si (n:=n) i f (by omega) (by omega);have e:qA (yB n) (f+1) (i+1)= .node [113] [su (i+1:Nat)] 1 [qA (yB n) f i,qA (yB n) f i]:=by
   show(match(yB n)[i+1]? with |some (l:LN)=>T.node l.rel l.args l.rule (l.kids.map λ(k:Int)=>qA (yB n) f k.toNat)|none=> .node [] [] 0 [])=_;rw[Gj a];rfl
  rw[e,nG];show((qA (yB n) f i).size+((qA (yB n) f i).size+0))+1+1=2 ^ (i+1+1);rw[Nat.pow_succ 2 (i+1)];omega
theorem EG:(qA (yB 64) 16 15).size=65535:=by
 have:=Si (n:=64) 15 16 (by decide) (by decide);omega
end
theorem BN{E:Env}{h:AH}{ts tx e:TypeId}{sz:Nat}(d:FN E ts tx=some (e,sz)){id len id2 off2:Nat}{cc:Option Nat}{vs cs:List AV}(f:h.obj id= .cells vs e true false)(a:len*sz<=vs.length)(k:len<=268435456)(g:jw E h id2 off2 (1*sz)=some cs)(i:lu cs=true)(b:Nat.beq id id2=false):
 jv E h .append [.sl id 0 len none,.sl id2 off2 1 cc] [ts,tx]=some (.val (.sl h.nx 0 (len+1) none) ((h.put id .dead).new (.cells (vs.take (len*sz)++cs) e true false))):=by
 show(nM E h ts tx (.sl id 0 len none) (.sl id2 off2 1 cc)).map _=_;rw[rO d (n:=1) (c:=cs) (by show(jw E h id2 off2 (1*sz)).map (λc=>(1,c))=_;rw[g];rfl) (by omega)];unfold Oi;simp only;rw[show Nat.blt 268435456 len=false from by
  cases j:Nat.blt 268435456 len with
  |false=>rfl
  |true=>simp[Nat.blt]at j;omega]
 simp only[bC];rw[f];simp only;rw[show Nat.beq e e=true from Nat.beq_refl e,show Nat.ble (len*sz) vs.length=true from aW a,i,b];rfl
theorem Oh{E:Env}{h h':AH}{ts tx e:TypeId}{sz:Nat}(a:FN E ts tx=some (e,sz)){id len id2 off2 c:Nat}{cc:Option Nat}{cs:List AV}(b:jw E h id2 off2 (1*sz)=some cs)(d:len+1<=c)(f:dD h id (0+len*sz) cs=some h'):
 jv E h .append [.sl id 0 len (some c),.sl id2 off2 1 cc] [ts,tx]=some (.val (.sl id 0 (len+1) (some c)) h'):=by
 show(nM E h ts tx (.sl id 0 len (some c)) (.sl id2 off2 1 cc)).map _=_;rw[rO a (n:=1) (c:=cs) (by show(jw E h id2 off2 (1*sz)).map (λc=>(1,c))=_;rw[b];rfl) (by omega)];unfold Oi;simp only;rw[show Nat.ble (len+1) c=true from aW d];simp only[bA];rw[f];rfl
section
variable{A:AV}{N kc kn lb lc ln lo off q:Nat}{R:rP}{S:List AV}{at0:Int}{cp:Option Nat}{m:Mm}
noncomputable def OT(a lo ln lc:Nat)(A B st:AV):AF:=(Fu B (.aO (some (a,lo)) ln lc) A st)
noncomputable def NH(a lo ln lc:Nat)(A B p b st:AV)(c:Nat)(j:Int):AF:=(J8 p (zI j) b B (.aO (some (a,lo)) ln lc) A (zI ((↑c:Int))) st)
noncomputable def pB(t off:Nat)(i:Int):AO:= .cells [.ptr t off,zI i] 168 false false
theorem adw{l:List Nat}(h:l.Nodup)(c:∀x∈l,x<N):(l++[N,N+1]).Nodup:=by
 rw[List.nodup_append];refine⟨h,by simp,λa d b e=>?_⟩;have:=c a d;simp at e;omega
section
variable(V:Fe)(Y:Ge)(X:∀old,Fw old)(Z:∀old,Gw old)
include V Y X Z
theorem adG{old:Old}{w j n y s t p:Nat}{B:AV}{W o:List AV}{g:Bool}{a:Int}
 (hs:m s= .cells S 168 g false)(ht:m t= .cells W 28 false false)(hp:m p=pB t off at0)(hq:m q= .cells o 28 false false)
 (hd:[s,t,p,q].Nodup)(I:∀x∈[s,t,p,q],x<N)(hO:N+2<=OLD)(r:tJ cp g S w)(hw:w<=268435456)
 (hy:y<kn)(hk:∀h:AH,loadT (E.wo old) h 3 (OLD+j) (n+y*1)=some (zI a))(T:W[off+3]? =some (.sl q 0 kn (some kn)))(hkn:kn<=1048576)
 (B':∀K L M g' U,U K= .cells L 168 g' false->(K=s∨(N<=K∧K<N+2))->tJ M g' L (w+1)->(∀i,i<2*w->L[i]? =S[i]?)->L[2*w]? =some (.ptr q (y*4))->L[2*w+1]? =some (zI a)->(∀k,k<N->k≠s->U k=m k)->
  dA prog E old (NH lb lo ln lc A B (.ptr p 0) (.aO (some (j,n)) kn kc) (.sl K 0 (w+1) M) kn ((y+1:Nat):Int)) U (N+2) R):
 dA prog E old (NH lb lo ln lc A B (.ptr p 0) (.aO (some (j,n)) kn kc) (.sl s 0 w cp) kn (y:Int)) m N R:=by
 obtain⟨θ,hθ⟩:=Pm.of [0,1,2,3,4,5] ([s,t,p,q]++[N,N+1]) rfl (by decide) (adw hd I) (λx C=>by simp at C;unfold OLD;omega) (λx C=>by
  rcases bF.1 C with C|C
  .have:=I x C;omega
  .simp at C;omega)
 obtain⟨t0,t1,t2,t3,t4,t5⟩:θ.to 0=s∧θ.to 1=t∧θ.to 2=p∧θ.to 3=q∧θ.to 4=N∧θ.to 5=N+1:=by
  have h:[θ.to 0,θ.to 1,θ.to 2,θ.to 3,θ.to 4,θ.to 5]=[s,t,p,q,N,N+1]:=hθ;simp only[dO,j6]at h;exact h
 have hKl:∀h:AH,h.obj 1= .cells (fQ θ W) 28 false false->loadT (E.wo old) h 26 1 (off+3)=some (.sl 3 0 kn (some kn)):=λh ho=>by
  have e:(AV.sl q 0 kn (some kn)).un θ= .sl 3 0 kn (some kn):=by show AV.sl (θ.inv q) 0 kn (some kn)=_;rw[← t3,θ.li]
  exact lD (by kernel_rfl) rfl ho (by rw[tK T,e])
 have ha:FN (E.wo old) 169 169=some (168,2):=by kernel_rfl
 have z:∀e∈ents (zN (zN (zL (.cells (fQ θ o) 28 false false)) (.cells (fQ θ W) 28 false false) .e) (.cells (fQ θ S) 168 g false) (zL (iL off at0))),m (θ.to e.1)=e.2.ren θ.to∧θ.to e.1∈[s,t,p,q,N,N+1]:=λe c=>by
  have c:e∈[(0,AO.cells (fQ θ S) 168 g false),(1,.cells (fQ θ W) 28 false false),(3,.cells (fQ θ o) 28 false false),(2,.cells [zP 1 off,zI at0] 168 false false)]:=c;simp only[ay,aB,bn]at c;rcases c with rfl|rfl|rfl|rfl
  .exact⟨by rw[t0,hs,iT],by rw[t0];simp⟩
  .exact⟨by rw[t1,ht,iT],by rw[t1];simp⟩
  .exact⟨by rw[t3,hq,iT],by rw[t3];simp⟩
  .refine⟨?_,by rw[t2];simp⟩
   show m (θ.to 2)= .cells [.ptr (θ.to 1) off,zI at0] 168 false false;rw[t2,hp,t1];rfl
 have hne:=fJ.1 hd;have main:∀(b:Nat) (cp2:Option Nat) (u:AH) (v:List AV) (J:Bool),jv (E.wo old) (yC (.cells (fQ θ o) 28 false false) (.cells (fQ θ W) 28 false false) (.cells (fQ θ S) 168 g false) (.cells [.ptr 3 (y*4),zI a] 168 false false) (iL off at0)) .append [.sl 0 0 w cp,.sl 4 0 1 (some 1)] [169,169]=some (.val (.sl b 0 (w+1) cp2) u)->
  (b=0∨b=5)->u.tr.get 1=some (.cells (fQ θ W) 28 false false)->u.tr.get 2=some (iL off at0)->u.tr.get 3=some (.cells (fQ θ o) 28 false false)->u.tr.get b=some (.cells (fQ θ v) 168 J false)->Nat.ble u.nx 6=true->u.df=0->
  tJ cp2 J v (w+1)->(∀i,i<2*w->v[i]? =S[i]?)->v[2*w]? =some (.ptr q (y*4))->v[2*w+1]? =some (zI a)->dA prog E old (NH lb lo ln lc A B (.ptr p 0) (.aO (some (j,n)) kn kc) (.sl s 0 w cp) kn (y:Int)) m N R:=λb cp2 u v J hA O g1 gp gq gs F hdf q1 q2 q3 q4=>by
  have D:=gx3 V Y old (X old) (Z old) lb lo ln lc (A.un θ) (B.un θ) (fQ θ S) (fQ θ W) g cp w off (fQ θ o) at0 j n kn kc y y rfl hy a hk hKl b cp2 u hA (aA (by omega));rw[wrapN (by omega)]at D;have hsN:=I s (by simp);have htN:=I t (by simp);have hpN:=I p (by simp);have hqN:=I q (by simp);have F:=aF F;refine dA.lift (θ:=θ) (N':=N+2) (l:=[(s,if b=0 then .cells v 168 J false else .dead),(t,.cells W 28 false false),(p,pB t off at0),(q,.cells o 28 false false),(N,.dead),(N+1,if b=0 then .dead else .cells v 168 J false)]) (f0':=NH lb lo ln lc (A.un θ) (B.un θ) (.ptr 2 0) (.aO (some (j,n)) kn kc) (.sl b 0 (w+1) cp2) kn ((y+1:Nat):Int))
   ⟨λe c=>(z e c).1,λe c=>(z e c).2,λe c d=>?_,λi h1 G=>?_,by omega,?_,hO,rfl,hdf⟩ D ⟨rfl,rfl,rfl⟩ ⟨rfl,rfl,rfl⟩ ?_ rfl ?_
  .simp only[ay,aB,bn]at c
   rcases c with rfl|rfl|rfl|rfl|rfl|rfl
   .by_cases h0:b=0
    .subst h0;exact⟨0,_,gs,t0,iT _ _ _ _ _⟩
    .simp only[au h0]at d;exact d.elim
   .exact⟨1,_,g1,t1,iT _ _ _ _ _⟩
   .refine⟨2,_,gp,t2,?_⟩
    show AO.cells [.ptr (θ.to 1) off,zI at0] 168 false false=_;rw[t1];rfl
   .exact⟨3,_,gq,t3,iT _ _ _ _ _⟩
   .exact d.elim
   .by_cases h0:b=0
    .simp only[aH h0]at d;exact d.elim
    .obtain rfl:b=5:=O.resolve_left h0
     exact⟨5,_,gs,t5,iT _ _ _ _ _⟩
  .have h1:4<=i:=h1
   have G:i<6:=by omega
   rcases(by omega:i=4∨i=5)with rfl|rfl
   .rw[t4];omega
   .rw[t5];omega
  .exact aW (aQ F (by decide))
  .show _=NH lb lo ln lc ((A.un θ).ren θ.to) ((B.un θ).ren θ.to) (.ptr (θ.to 2) 0) (.aO (some (j,n)) kn kc) (.sl (θ.to 0) 0 w cp) kn y
   rw[AV.jo,AV.jo,t2,t0]
  .have e:(NH lb lo ln lc (A.un θ) (B.un θ) (.ptr 2 0) (.aO (some (j,n)) kn kc) (.sl b 0 (w+1) cp2) kn ((y+1:Nat):Int)).ren θ.to=NH lb lo ln lc A B (.ptr p 0) (.aO (some (j,n)) kn kc) (.sl (θ.to b) 0 (w+1) cp2) kn ((y+1:Nat):Int):=by
    show NH lb lo ln lc ((A.un θ).ren θ.to) ((B.un θ).ren θ.to) (.ptr (θ.to 2) 0) (.aO (some (j,n)) kn kc) (.sl (θ.to b) 0 (w+1) cp2) kn ((y+1:Nat):Int)=_;rw[AV.jo,AV.jo,t2]
   rw[e];have P:θ.to b=s∧b=0∨θ.to b=N+1∧¬b=0:=by
    rcases O with rfl|rfl
    .exact .inl ⟨t0,rfl⟩
    .exact .inr ⟨t5,by decide⟩
   refine B' (θ.to b) v cp2 J _ ?_ ?_ q1 q2 q3 q4 (λk hk1 hk2=>?_)
   .rcases P with⟨h1,G⟩|⟨h1,G⟩
    .rw[h1];simp only[dH];rw[aH trivial,aH G]
    .rw[h1];simp only[dH]
     rw[au (by omega),au (by omega),au (by omega),au (by omega),au (by omega),aH trivial,au G]
   .rcases P with⟨h1,G⟩|⟨h1,G⟩
    .exact .inl h1
    .exact .inr ⟨by omega,by omega⟩
   .simp only[dH]
    rw[au hk2];by_cases k1:k=t
    .rw[aH k1,k1,ht]
    .by_cases Q:k=p
     .rw[au k1,aH Q,Q,hp]
     .by_cases k3:k=q
      .rw[au k1,au Q,aH k3,k3,hq]
      .rw[au k1,au Q,au k3,au (by omega),au (by omega)]
 have e3:[AV.ptr 3 (y*4),zI a]=fQ θ [.ptr q (y*4),zI a]:=by
  show _=[AV.ptr (θ.inv q) (y*4),zI a];rw[← t3,θ.li]
 rcases r with⟨rfl,rfl,H⟩|⟨rfl,rfl,H,hw1⟩
 .have f:(S.take (w*2)).length=2*w:=by rw[fM];omega
  have e5:(fQ θ S).take (w*2)++[.ptr 3 (y*4),zI a]=fQ θ (S.take (w*2)++[.ptr q (y*4),zI a]):=by rw[Mc,mo,e3]
  refine main 5 none _ (S.take (w*2)++[.ptr q (y*4),zI a]) true (BN (id:=0) (len:=w) (id2:=4) (off2:=0) (cc:=some 1) (vs:=fQ θ S) (cs:=[.ptr 3 (y*4),zI a]) ha rfl (by rw[nI];omega) hw rfl rfl rfl) (.inr rfl) rfl rfl rfl (by rw[← e5];rfl) rfl rfl (.inl ⟨rfl,rfl,by rw[fF,f];simp;omega⟩) (λi hi=>?_) ?_ ?_
  .rw[aU (by omega),ig,aH (by omega)]
  .rw[aY (by omega),f,oN];rfl
  .rw[aY (by omega),f,show 2*w+1 - 2*w=1 by omega];rfl
 .match w,hw1 with
  |0,_=>
   have hS:setAt (fQ θ S) 0 [.ptr 3 (y*4),zI a]=fQ θ [.ptr q (y*4),zI a]:=by
    have:=rD (fQ θ S) [.ptr 3 (y*4),zI a] [] [] (by rw[nI,H];rfl);simp only[nA,bD,List.length_nil]at this;rw[this,e3]
   have r:=gD (h:=(yC (.cells (fQ θ o) 28 false false) (.cells (fQ θ W) 28 false false) (.cells (fQ θ S) 168 false false) (.cells [.ptr 3 (y*4),zI a] 168 false false) (iL off at0))) (id:=0) (off:=0+0*2) (l:=fQ θ S) (vs:=[.ptr 3 (y*4),zI a]) (e:=168) (g:=false) rfl (by rw[nI,H];exact ah _) rfl;rw[show 0+0*2=0 from rfl,hS]at r;exact main 0 (some 1) _ [.ptr q (y*4),zI a] false (Oh (sz:=2) (id:=0) (len:=0) (id2:=4) (off2:=0) (cc:=some 1) (cs:=[.ptr 3 (y*4),zI a]) ha rfl (ah 1) r) (.inl rfl) rfl rfl rfl rfl rfl rfl (.inr ⟨rfl,rfl,rfl,ah _⟩) (λi hi=>aP hi (iq _)) rfl rfl
  |1,_=>
   have hA:=vR (h:=(yC (.cells (fQ θ o) 28 false false) (.cells (fQ θ W) 28 false false) (.cells (fQ θ S) 168 false false) (.cells [.ptr 3 (y*4),zI a] 168 false false) (iL off at0))) (sz:=2) (id:=0) (len:=1) (id2:=4) (off2:=0) (cc:=some 1) (vs:=fQ θ S) (cs:=[.ptr 3 (y*4),zI a]) ha (by
    show takeN (fQ θ S) 0 2=_;rw[show 2=(fQ θ S).length by rw[nI,H]];exact zR _) (by decide) rfl
   refine main 5 none _ (S++[.ptr q (y*4),zI a]) true hA (.inr rfl) rfl rfl rfl (by rw[mo,← e3];rfl) rfl rfl (.inl ⟨rfl,rfl,by rw[fF,H];exact ah _⟩) (λi hi=>?_) ?_ ?_
   .rw[aU (by omega)]
   .rw[aY (by omega),H];rfl
   .rw[aY (by omega),H];rfl
end
end
section
variable{A:AV}{N kc kn lb lc ln lo off q:Nat}{R:rP}{S:List AV}{at0:Int}{cp:Option Nat}{h0':AH}{m:Mm}{pk:Option (Nat×Nat)}{θ:Pm}
theorem abr{l:List Nat}(h:l.Nodup)(c:∀x∈l,x<N):(l++[N,N+1,N+2,N+3,N+4]).Nodup:=by
 rw[List.nodup_append];refine⟨h,by simp,λa d b e=>?_⟩;have:=c a d;simp at e;omega
structure afC(θ:Pm)(s t N:Nat):Prop where
 t0:θ.to 0=s
 t1:θ.to 1=t
 t2:θ.to 2=N
 t3:θ.to 3=N+1
 t4:θ.to 4=N+2
 t5:θ.to 5=N+3
 t6:θ.to 6=N+4
theorem acH{s t:Nat}(i:s≠t)(l:s<N)(m:t<N)(n:N+5<=OLD):∃θ:Pm,afC θ s t N:=by
 obtain⟨θ,j⟩:=Pm.of [0,1,2,3,4,5,6] ([s,t]++[N,N+1,N+2,N+3,N+4]) rfl (by decide) (abr (by simpa using i) (by simp;omega)) (λx k=>by simp at k;unfold OLD;omega) (λx k=>by simp at k;omega);have h:[θ.to 0,θ.to 1,θ.to 2,θ.to 3,θ.to 4,θ.to 5,θ.to 6]=[s,t,N,N+1,N+2,N+3,N+4]:=j;simp only[dO,j6]at h;obtain⟨a,b,c,d,e,f,g⟩:=h;exact⟨θ,a,b,c,d,e,f,g⟩
section
variable(U:Fe)(Y:Ge)(X:∀old,Fw old)(Z:∀old,Gw old)
include U Y X Z
theorem Zc{old:Old}{w s t:Nat}{B:AV}{W W':List AV}{g:Bool}(V:afC θ s t N)
 (u:m s= .cells S 168 g false)(v:m t= .cells W 28 false false)(x:s≠t)(y:s<N)(z:t<N)(C:N+5<=OLD)
 (D:DS old (OT lb lo ln lc (A.un θ) (B.un θ) (.sl 0 0 (w+1) cp)) (ji (.cells (fQ θ W) 28 false false) (.cells (fQ θ S) 168 g false)) (NH lb lo ln lc (A.un θ) (B.un θ) (.ptr 2 0) (.aO pk kn kc) (.sl 0 0 w cp) kn 0) h0')
 (F:h0'.tr.get 0=some (.cells (fQ θ S) 168 g false))(G:h0'.tr.get 1=some (.cells (fQ θ W') 28 false false))(H:h0'.tr.get 2=some (pB 1 off at0))(h j:AO)(I:h.live->∃q,h0'.tr.get 5=some q∧q.ren θ.to=h)(J:j.live->∃q,h0'.tr.get 6=some q∧q.ren θ.to=j)(d:Nat.ble h0'.nx 7=true)(n:h0'.df=0)
 (B':∀f,f t= .cells W' 28 false false->f N=pB t off at0->f (N+3)=h->f (N+4)=j->(∀k,k<N->k≠t->f k=m k)->dA prog E old (NH lb lo ln lc A B (.ptr N 0) (.aO pk kn kc) (.sl s 0 w cp) kn 0) f (N+5) R):
 dA prog E old (OT lb lo ln lc A B (.sl s 0 (w+1) cp)) m N R:=by
 obtain⟨t0,t1,t2,t3,t4,t5,t6⟩:=V;have c:∀e∈ents (zN (zL (.cells (fQ θ W) 28 false false)) (.cells (fQ θ S) 168 g false) .e),m (θ.to e.1)=e.2.ren θ.to∧θ.to e.1∈[s,t,N,N+1,N+2,N+3,N+4]:=λe a=>by
  have a:e∈[(0,AO.cells (fQ θ S) 168 g false),(1,.cells (fQ θ W) 28 false false)]:=a;simp only[ay,aB,bn]at a;rcases a with rfl|rfl
  .exact⟨by rw[t0,u,iT],by rw[t0];simp⟩
  .exact⟨by rw[t1,v,iT],by rw[t1];simp⟩
 have d:=aF d;refine dA.lift (θ:=θ) (N':=N+5) (l:=[(s,.cells S 168 g false),(t,.cells W' 28 false false),(N,pB t off at0),(N+1,.dead),(N+2,.dead),(N+3,h),(N+4,j)])
  ⟨λe a=>(c e a).1,λe a=>(c e a).2,λe a b=>?_,λi h1 L=>?_,by omega,aW (aQ d (by decide)),C,rfl,n⟩ D ⟨rfl,rfl,rfl⟩ ⟨rfl,rfl,rfl⟩ ?_ rfl ?_
 .simp only[ay,aB,bn]at a
  rcases a with rfl|rfl|rfl|rfl|rfl|rfl|rfl
  .exact⟨0,_,F,t0,iT _ _ _ _ _⟩
  .exact⟨1,_,G,t1,iT _ _ _ _ _⟩
  .refine⟨2,_,H,t2,?_⟩
   show AO.cells [.ptr (θ.to 1) off,zI at0] 168 false false=_;rw[t1];rfl
  .exact b.elim
  .exact b.elim
  .obtain⟨q,o,p⟩:=I b
   exact⟨5,q,o,t5,p⟩
  .obtain⟨q,o,p⟩:=J b
   exact⟨6,q,o,t6,p⟩
 .have h1:2<=i:=h1
  rcases(by omega:i=2∨i=3∨i=4∨i=5∨i=6)with rfl|rfl|rfl|rfl|rfl
  .rw[t2];omega
  .rw[t3];omega
  .rw[t4];omega
  .rw[t5];omega
  .rw[t6];omega
 .show _=OT lb lo ln lc ((A.un θ).ren θ.to) ((B.un θ).ren θ.to) (.sl (θ.to 0) 0 (w+1) cp)
  rw[AV.jo,AV.jo,t0]
 .have e:(NH lb lo ln lc (A.un θ) (B.un θ) (.ptr 2 0) (.aO pk kn kc) (.sl 0 0 w cp) kn 0).ren θ.to=NH lb lo ln lc A B (.ptr N 0) (.aO pk kn kc) (.sl s 0 w cp) kn 0:=by
   show NH lb lo ln lc ((A.un θ).ren θ.to) ((B.un θ).ren θ.to) (.ptr (θ.to 2) 0) (.aO pk kn kc) (.sl (θ.to 0) 0 w cp) kn 0=_;rw[AV.jo,AV.jo,t2,t0]
  rw[e];refine B' _ ?_ ?_ ?_ ?_ (λk K r=>?_)
  .simp only[dH];rw[au (by omega),aH trivial]
  .simp only[dH];rw[au (by omega),au (by omega),aH trivial]
  .simp only[dH];rw[au (by omega),au (by omega),au (by omega),au (by omega),au (by omega),aH trivial]
  .simp only[dH];rw[au (by omega),au (by omega),au (by omega),au (by omega),au (by omega),au (by omega),aH trivial]
  .simp only[dH]
   by_cases k1:k=s
   .rw[aH k1,k1,u]
   .rw[au k1,au r,au (by omega),au (by omega),au (by omega),au (by omega),au (by omega)]
theorem Wu{old:Old}{B st:AV}{j:Int}(hj:(kn:Int)<=j)(c:N<=OLD)(d:q<OLD)
 (B':dA prog E old (OT lb lo ln lc A B st) m N R):dA prog E old (NH lb lo ln lc A B (.ptr q 0) (.aO pk kn kc) st kn j) m N R:=by
 let θ:=Pm.one.sw 2 q (by decide) d;have t2:θ.to 2=q:=aag 2 q;have D:=gx4 U Y old (X old) (Z old) lb lo ln lc (A.un θ) (B.un θ) 0 (st.un θ) pk kn kc j (aD (by omega));refine dA.lift (θ:=θ) (N':=N) (l:=[]) (f0':=OT lb lo ln lc (A.un θ) (B.un θ) (st.un θ)) ⟨λe a=>(by cases a),λe a=>(by cases a),λe a=>(by cases a),λi h1 b=>?_,ah _,rfl,c,rfl,rfl⟩ D ⟨rfl,rfl,rfl⟩ ⟨rfl,rfl,rfl⟩ ?_ ?_ B'
 .have h1:3<=i:=h1
  have b:i<3:=b;omega
 .show _=NH lb lo ln lc ((A.un θ).ren θ.to) ((B.un θ).ren θ.to) (.ptr (θ.to 2) 0) (.aO pk kn kc) ((st.un θ).ren θ.to) kn j
  rw[AV.jo,AV.jo,AV.jo,t2]
 .show OT lb lo ln lc ((A.un θ).ren θ.to) ((B.un θ).ren θ.to) ((st.un θ).ren θ.to)=_
  rw[AV.jo,AV.jo,AV.jo]
end
end
section
variable{A a a':AV}{N i id j kc kn lb lc ln lo off x:Nat}{R:rP}{S l ws:List AV}{cp:Option Nat}{el t:TypeId}{h hp:AH}{m:Mm}{pk:Option (Nat×Nat)}{rel:List UInt8}{rule:Int}{us:List Value}{ι:Nm}
theorem RB{E:Env}{s:Nat}(a:(E.tt.get t).map (·.isAgg)=some true)(e:(E.tt.get t).map (·.size)=some s)(b:Nat.ble OLD id=false){vs:List AV}{g y:Bool}(f:hp.obj id= .cells vs el g y){c:List AV}(h:takeN vs off s=some c):loadT E hp t id off=some (.agg c):=by
 obtain⟨ti,d,rfl⟩:=aN.1 e;rw[d]at a;have a:ti.isAgg=true:=by simpa using a
 unfold loadT;rw[d];show cond ti.isAgg ((jw E hp id off ti.size).map AV.agg) _=_;rw[a];show(jw E hp id off ti.size).map AV.agg=_;unfold jw;rw[b];show Option.map AV.agg (match hp.obj id with | .cells vs _ _ _=>takeN vs off ti.size|_=>none)=_;rw[f];show Option.map AV.agg (takeN vs off ti.size)=_;rw[h];rfl
theorem Mk{b:AV}(h1:l[i]? =some a)(c:l[i+1]? =some b):takeN l i 2=some [a,b]:=by
 have e:(l.drop i).take 2=[a,b]:=by
  apply List.ext_getElem?;intro j;rw[ig,jE]
  match j with
  |0=>rw[aH (by omega)];exact h1
  |1=>rw[aH (by omega)];exact c
  |j+2=>rw[au (by omega)];rfl
 unfold takeN;rw[e];rfl
theorem Ce(X Y:List AV)(a b c d v:AV):(X++([a,b,c,d]++Y)).set (X.length+1) v=X++([a,v,c,d]++Y):=by
 rw[iJ _ _ (by omega),show X.length+1 - X.length=1 by omega];rfl
theorem D7(X Y:List AV)(a b c d v:AV):(X++([a,b,c,d]++Y)).set (X.length+3) v=X++([a,b,c,v]++Y):=by
 rw[iJ _ _ (by omega),show X.length+3 - X.length=3 by omega];rfl
theorem CF(X Y:List AV)(a b c d:AV):(X++([a,b,c,d]++Y))[X.length+1]? =some b:=by
 rw[aY (by omega),show X.length+1 - X.length=1 by omega];rfl
theorem Ah(X Y:List AV)(a b c d:AV):(X++([a,b,c,d]++Y))[X.length+3]? =some d:=by
 rw[aY (by omega),show X.length+3 - X.length=3 by omega];rfl
theorem xH(X Y vs c:List AV)(h:vs.length=c.length):setAt (X++(c++Y)) X.length vs=X++(vs++Y):=rD c vs X Y h
theorem EM(X Y:List AV)(a b c d v:AV):setAt (X++([a,b,c,d]++Y)) (X.length+3) [v]=X++([a,b,c,v]++Y):=by
 have:=rD [d] [v] (X++[a,b,c]) Y rfl;simpa using this
theorem jL(θ:Pm)(h:AV.dX 0 l=true)(t:TypeId)(g z:Bool):(AO.cells l t g z).ren θ.to= .cells l t g z:=by
 show AO.cells (AV.jC θ.to l) t g z=_;rw[AV.kZ θ.old h]
theorem Yv(hj:ws[j]? =some a)(i:∀u,RV ι a u->RV ι a' u)(h:dJ ι ws us):dJ ι (ws.set j a') us:=
 dJ.yT (by rw[lg];exact h.length) λx b v d c=>by
  rw[List.getElem?_set]at d;split at d
  .rename_i e
   subst e;split at d
   .cases d
    obtain⟨u,f,g⟩:=h.get hj;rw[f]at c;cases c;exact i _ g
   .cases d
  .obtain⟨v2,e2,r2⟩:=h.get d
   rw[e2]at c;cases c;exact r2
theorem dA.nil{P:Program}{E:Env}{old:Old}{f:AF}{m:Mm}{N:Nat}{R:rP}{id j:Nat}{ws:List AV}{el:TypeId}{g z:Bool}(hi:m id= .cells ws el g z)(hj:ws[j]? =some .aM)(B:dA P E old f (dH m [(id,.cells (ws.set j (.aO none 0 0)) el g z)]) N R):dA P E old f m N R:=
 dA.Bp hi (by rw[lg]) (λι b h=>Yv hj (λu a=>Ru a) h) B
section
variable(T:Fe)(W:Ge)(U:∀old,Fw old)(Z:∀old,Gw old)
include T W U Z
theorem ZK(old:Old)(rel:List UInt8)(a:h.df=0)(b:Nat.ble h.nx OLD=true):DC old 21 [.agg [.str rel,.aO none 0 0]] h (U3 rel) h:=
 DoesC.ov (DoesC.drop (DoesC.ent (Z old) (by kernel_rfl) (cp2 T W old (U old) (Z old) rel)) [] (by kernel_rfl) (by kernel_rfl) (by kernel_rfl) rfl (by kernel_rfl) (by kernel_rfl) (by kernel_rfl)) (by kernel_rfl) (by kernel_rfl) a b
theorem abJ{old:Old}{w s t:Nat}{B:AV}{X c Y:List AV}{g:Bool}{args:List PV}
 (hs:m s= .cells S 168 g false)(ht:m t= .cells (X++(c++Y)) 28 false false)(M:c.length=4)(u:s≠t)(v:s<N)(y:t<N)(O:N+5<=OLD)(P:tJ cp g S (w+1))(hw:w<=268435456)
 (h1:S[2*w]? =some (.ptr t X.length))(h2:S[2*w+1]? =some (zI x))(lx:x<ln)(hX:∀h:AH,loadT (E.wo old) h 65 (OLD+lb) (lo+x*4)=some (.agg [.str rel,a,zI rule,.aO pk kn kc]))(ha:iM old a args)(Q:args.length<=268435456)(h0:0<kn)(G:kn<=1048576)
 (B':∀old' a' p q z,Old.le old old'->iM old' a' args->N<=p->p<N+5->N<=q->q<N+5->p≠q->z p=pB t X.length x->z q= .cells (rep kn z4) 28 false false->z t= .cells (X++([.str rel,a',zI rule,.sl q 0 kn (some kn)]++Y)) 28 false false->(∀k,k<N->k≠t->z k=m k)->
  dA prog E old' (NH lb lo ln lc A B (.ptr p 0) (.aO pk kn kc) (.sl s 0 w cp) kn 0) z (N+5) R):
 dA prog E old (OT lb lo ln lc A B (.sl s 0 (w+1) cp)) m N R:=by
 obtain⟨θ,V⟩:=acH u v y O;have eT:(AV.ptr t X.length).un θ= .ptr 1 X.length:=by show AV.ptr (θ.inv t) _=_;rw[← V.t1,θ.li]
 have r:∀h:AH,h.obj 0= .cells (fQ θ S) 168 g false->loadT (E.wo old) h 168 0 (w*2)=some (.agg [.ptr 1 X.length,zI x]):=λh ho=>by
  refine RB (by kernel_rfl) (by kernel_rfl) rfl ho (Mk ?_ ?_)
  .rw[mW,tK h1,eT]
  .rw[mW,tK h2];rfl
 have hi:IntKind.i64.wrap ((↑(w+1):Int) - 1)=(↑w:Int):=by rw[dW (by omega) (by omega)];omega
 have H:iN (E.wo old) 169 (.sl 0 0 (w+1) cp) none (some (zI (IntKind.i64.wrap ((↑(w+1):Int) - 1)))) none=some (.sl 0 0 w cp):=Jm P (by kernel_rfl) (by kernel_rfl) hi;have f:(fQ θ X).length=X.length:=nI θ X;have I:(fQ θ c).length=4:=by rw[nI,M]
 have J:fQ θ (X++(c++Y))=fQ θ X++(fQ θ c++fQ θ Y):=by rw[mo,mo]
 have K:AV.dX 0 (rep kn z4)=true:=GZ rfl kn;rcases ha with⟨b,o,ac,rfl,hC⟩|⟨rfl,h00,hcv⟩
 .obtain⟨d,ag,hR,C⟩:=c21 T W old (U old) (Z old) rel (c:=ac) hC Q
  have e5:(AV.sl (N+3) 0 args.length d).un θ= .sl 5 0 args.length d:=by show AV.sl (θ.inv (N+3)) _ _ _=_;rw[← V.t5,θ.li]
  have e6:(AV.sl (N+4) 0 kn (some kn)).un θ= .sl 6 0 kn (some kn):=by show AV.sl (θ.inv (N+4)) _ _ _=_;rw[← V.t6,θ.li]
  have w1:setAt (fQ θ (X++(c++Y))) X.length [.str rel,.sl 5 0 args.length d,zI rule,.aM]=fQ θ X++([.str rel,.sl 5 0 args.length d,zI rule,.aM]++fQ θ Y):=by
   rw[J,← f];exact xH _ _ _ _ (by rw[I];rfl)
  have w2:setAt (fQ θ X++([.str rel,.sl 5 0 args.length d,zI rule,.aM]++fQ θ Y)) (X.length+3) [.sl 6 0 kn (some kn)]=fQ θ X++([.str rel,.sl 5 0 args.length d,zI rule,.sl 6 0 kn (some kn)]++fQ θ Y):=by
   rw[← f];exact EM _ _ _ _ _ _ _
  have D:=afU T W old (U old) (Z old) lb lo ln lc (A.un θ) (B.un θ) (fQ θ S) (fQ θ (X++(c++Y))) g cp w X.length hw x x rfl lx rel (some (b,o)) args.length ac rule pk kn kc hX r H hi (fD args) ag d (C rfl rfl rfl (by kernel_rfl))
   (fQ θ X++([.str rel,.sl 5 0 args.length d,zI rule,.aM]++fQ θ Y)) ((gD (l:=fQ θ (X++(c++Y))) (e:=28) (g:=false) rfl (by rw[nI];simp[M]) rfl).trans (by rw[w1];rfl))
   (fQ θ X++([.str rel,.sl 5 0 args.length d,zI rule,.sl 6 0 kn (some kn)]++fQ θ Y)) G ((gD (l:=fQ θ X++([.str rel,.sl 5 0 args.length d,zI rule,.aM]++fQ θ Y)) (e:=28) (g:=false) rfl (by simp[f];omega) rfl).trans (by rw[w2];rfl)) (aA (by omega)) (aA (by omega))
  refine Zc T W U Z (W':=X++([.str rel,.sl (N+3) 0 args.length d,zI rule,.sl (N+4) 0 kn (some kn)]++Y)) V hs ht u v y O D rfl ?_ rfl (.cells (fD args) 94 ag false) (.cells (rep kn z4) 28 false false) (λ_=>⟨_,rfl,jL θ (kU (gY args)) _ _ _⟩) (λ_=>⟨_,rfl,jL θ K _ _ _⟩) rfl rfl ?_
  .rw[mo,mo]
   show _=some (AO.cells (fQ θ X++([.str rel,(AV.sl (N+3) 0 args.length d).un θ,zI rule,(AV.sl (N+4) 0 kn (some kn)).un θ]++fQ θ Y)) 28 false false);rw[e5,e6];rfl
  .intro z b1 b2 b3 b4 b5
   refine dA.BD (id:=N+3) (i:=t) (j:=X.length+1) b3 (gY args) b1 (by omega) (CF _ _ _ _ _ _) ?_;intro old' b' c' hle hc' L;refine B' old' (.aO (some (b',0)) args.length c') N (N+4) _ hle (oJ (c:=c') L) (by omega) (by omega) (by omega) (by omega) (by omega) ?_ ?_ ?_ ?_
   .simp only[dH];rw[au (by omega),au (by omega)];exact b2
   .simp only[dH];rw[au (by omega),au (by omega)];exact b4
   .simp only[dH];rw[aH trivial,Ce]
   .intro k F n
    simp only[dH];rw[au n,au (by omega)];exact b5 k F n
 .obtain rfl:args=[]:=bB.1 h00
  have e5:(AV.sl (N+3) 0 kn (some kn)).un θ= .sl 5 0 kn (some kn):=by show AV.sl (θ.inv (N+3)) _ _ _=_;rw[← V.t5,θ.li]
  have w1:setAt (fQ θ (X++(c++Y))) X.length [.str rel,.aM,zI rule,.aM]=fQ θ X++([.str rel,.aM,zI rule,.aM]++fQ θ Y):=by
   rw[J,← f];exact xH _ _ _ _ (by rw[I];rfl)
  have w2:setAt (fQ θ X++([.str rel,.aM,zI rule,.aM]++fQ θ Y)) (X.length+3) [.sl 5 0 kn (some kn)]=fQ θ X++([.str rel,.aM,zI rule,.sl 5 0 kn (some kn)]++fQ θ Y):=by
   rw[← f];exact EM _ _ _ _ _ _ _
  have D:=afT T W old (U old) (Z old) lb lo ln lc (A.un θ) (B.un θ) (fQ θ S) (fQ θ (X++(c++Y))) g cp w X.length hw x x rfl lx rel none 0 0 rule pk kn kc hX r H hi (ZK T W U Z old rel rfl rfl)
   (fQ θ X++([.str rel,.aM,zI rule,.aM]++fQ θ Y)) ((gD (l:=fQ θ (X++(c++Y))) (e:=28) (g:=false) rfl (by rw[nI];simp[M]) rfl).trans (by rw[w1];rfl))
   (fQ θ X++([.str rel,.aM,zI rule,.sl 5 0 kn (some kn)]++fQ θ Y)) G ((gD (l:=fQ θ X++([.str rel,.aM,zI rule,.aM]++fQ θ Y)) (e:=28) (g:=false) rfl (by simp[f];omega) rfl).trans (by rw[w2];rfl)) (aA (by omega)) (aA (by omega))
  refine Zc T W U Z (W':=X++([.str rel,.aM,zI rule,.sl (N+3) 0 kn (some kn)]++Y)) V hs ht u v y O D rfl ?_ rfl (.cells (rep kn z4) 28 false false) .dead (λ_=>⟨_,rfl,jL θ K _ _ _⟩) (λh=>h.elim) rfl rfl ?_
  .rw[mo,mo]
   show _=some (AO.cells (fQ θ X++([.str rel,.aM,zI rule,(AV.sl (N+3) 0 kn (some kn)).un θ]++fQ θ Y)) 28 false false);rw[e5];rfl
  .intro z b1 b2 b3 b4 b5
   refine dA.nil (id:=t) (j:=X.length+1) b1 (CF _ _ _ _ _ _) ?_;refine B' old (.aO none 0 0) N (N+3) _ (Old.le_refl _) (.inr ⟨rfl,rfl,rfl⟩) (by omega) (by omega) (by omega) (by omega) (by omega) ?_ ?_ ?_ ?_
   .simp only[dH];rw[au (by omega)];exact b2
   .simp only[dH];rw[au (by omega)];exact b3
   .simp only[dH];rw[aH trivial,Ce]
   .intro k F n
    simp only[dH];rw[au n];exact b5 k F n
end
end
section
variable{A a:AV}{N kc lb lc ln lo x:Nat}{R:rP}{S:List AV}{cp:Option Nat}{m:Mm}{pk:Option (Nat×Nat)}{rel:List UInt8}{rule:Int}
section
variable(T:Fe)(W:Ge)(U:∀old,Fw old)(Z:∀old,Gw old)
include T W U Z
theorem abK{old:Old}{w s t:Nat}{B:AV}{X c Y:List AV}{g:Bool}{args:List PV}
 (hs:m s= .cells S 168 g false)(ht:m t= .cells (X++(c++Y)) 28 false false)(J:c.length=4)(p:s≠t)(q:s<N)(r:t<N)(v:N+5<=OLD)(K:tJ cp g S (w+1))(hw:w<=268435456)
 (h1:S[2*w]? =some (.ptr t X.length))(h2:S[2*w+1]? =some (zI x))(lx:x<ln)(hX:∀h:AH,loadT (E.wo old) h 65 (OLD+lb) (lo+x*4)=some (.agg [.str rel,a,zI rule,.aO pk 0 kc]))(ha:iM old a args)(L:args.length<=268435456)
 (B':∀old' a' y,Old.le old old'->iM old' a' args->y t= .cells (X++([.str rel,a',zI rule,.aO none 0 0]++Y)) 28 false false->(∀k,k<N->k≠t->y k=m k)->
  dA prog E old' (OT lb lo ln lc A B (.sl s 0 w cp)) y (N+5) R):
 dA prog E old (OT lb lo ln lc A B (.sl s 0 (w+1) cp)) m N R:=by
 obtain⟨θ,V⟩:=acH p q r v;have eT:(AV.ptr t X.length).un θ= .ptr 1 X.length:=by show AV.ptr (θ.inv t) _=_;rw[← V.t1,θ.li]
 have n:∀h:AH,h.obj 0= .cells (fQ θ S) 168 g false->loadT (E.wo old) h 168 0 (w*2)=some (.agg [.ptr 1 X.length,zI x]):=λh ho=>by
  refine RB (by kernel_rfl) (by kernel_rfl) rfl ho (Mk ?_ ?_)
  .rw[mW,tK h1,eT]
  .rw[mW,tK h2];rfl
 have hi:IntKind.i64.wrap ((↑(w+1):Int) - 1)=(↑w:Int):=by rw[dW (by omega) (by omega)];omega
 have z:iN (E.wo old) 169 (.sl 0 0 (w+1) cp) none (some (zI (IntKind.i64.wrap ((↑(w+1):Int) - 1)))) none=some (.sl 0 0 w cp):=Jm K (by kernel_rfl) (by kernel_rfl) hi;have F:(fQ θ X).length=X.length:=nI θ X;have G:(fQ θ c).length=4:=by rw[nI,J]
 have H:fQ θ (X++(c++Y))=fQ θ X++(fQ θ c++fQ θ Y):=by rw[mo,mo]
 rcases ha with⟨b,o,ac,rfl,hC⟩|⟨rfl,M,hcv⟩
 .obtain⟨d,ag,hR,C⟩:=c21 T W old (U old) (Z old) rel (c:=ac) hC L
  have e5:(AV.sl (N+3) 0 args.length d).un θ= .sl 5 0 args.length d:=by show AV.sl (θ.inv (N+3)) _ _ _=_;rw[← V.t5,θ.li]
  have w1:setAt (fQ θ (X++(c++Y))) X.length [.str rel,.sl 5 0 args.length d,zI rule,.aM]=fQ θ X++([.str rel,.sl 5 0 args.length d,zI rule,.aM]++fQ θ Y):=by
   rw[H,← F];exact xH _ _ _ _ (by rw[G];rfl)
  have D:=afW T W old (U old) (Z old) lb lo ln lc (A.un θ) (B.un θ) (fQ θ S) (fQ θ (X++(c++Y))) g cp w X.length hw x x rfl lx rel (some (b,o)) args.length ac rule pk 0 kc hX n z hi (fD args) ag d (C rfl rfl rfl (by kernel_rfl))
   (fQ θ X++([.str rel,.sl 5 0 args.length d,zI rule,.aM]++fQ θ Y)) ((gD (l:=fQ θ (X++(c++Y))) (e:=28) (g:=false) rfl (by rw[nI];simp[J]) rfl).trans (by rw[w1];rfl)) (aA (by omega)) (aD (by omega))
  refine Zc T W U Z (W':=X++([.str rel,.sl (N+3) 0 args.length d,zI rule,.aM]++Y)) V hs ht p q r v D rfl ?_ rfl (.cells (fD args) 94 ag false) .dead (λ_=>⟨_,rfl,jL θ (kU (gY args)) _ _ _⟩) (λh=>h.elim) rfl rfl ?_
  .rw[mo,mo]
   show _=some (AO.cells (fQ θ X++([.str rel,(AV.sl (N+3) 0 args.length d).un θ,zI rule,.aM]++fQ θ Y)) 28 false false);rw[e5];rfl
  .intro y O b2 b3 b4 P
   refine Wu T W U Z (by omega) v (by omega) ?_;refine dA.BD (id:=N+3) (i:=t) (j:=X.length+1) b3 (gY args) O (by omega) (CF _ _ _ _ _ _) ?_;intro old' b' c' Q hc' I;rw[Ce];refine dA.nil (id:=t) (j:=X.length+3) (aH rfl) (Ah _ _ _ _ _ _) ?_;refine B' old' (.aO (some (b',0)) args.length c') _ Q (oJ (c:=c') I) ?_ ?_
   .simp only[dH];rw[aH trivial,D7]
   .intro k u f
    simp only[dH];rw[au f,au f,au (by omega)];exact P k u f
 .obtain rfl:args=[]:=bB.1 M
  have w1:setAt (fQ θ (X++(c++Y))) X.length [.str rel,.aM,zI rule,.aM]=fQ θ X++([.str rel,.aM,zI rule,.aM]++fQ θ Y):=by
   rw[H,← F];exact xH _ _ _ _ (by rw[G];rfl)
  have D:=afV T W old (U old) (Z old) lb lo ln lc (A.un θ) (B.un θ) (fQ θ S) (fQ θ (X++(c++Y))) g cp w X.length hw x x rfl lx rel none 0 0 rule pk 0 kc hX n z hi (ZK T W U Z old rel rfl rfl)
   (fQ θ X++([.str rel,.aM,zI rule,.aM]++fQ θ Y)) ((gD (l:=fQ θ (X++(c++Y))) (e:=28) (g:=false) rfl (by rw[nI];simp[J]) rfl).trans (by rw[w1];rfl)) (aA (by omega)) (aD (by omega))
  refine Zc T W U Z (W':=X++([.str rel,.aM,zI rule,.aM]++Y)) V hs ht p q r v D rfl ?_ rfl .dead .dead (λh=>h.elim) (λh=>h.elim) rfl rfl ?_
  .rw[mo,mo]
   show _=some (AO.cells (fQ θ X++([.str rel,.aM,zI rule,.aM]++fQ θ Y)) 28 false false);rfl
  .intro y O b2 b3 b4 P
   refine Wu T W U Z (by omega) v (by omega) ?_;refine dA.nil (id:=t) (j:=X.length+1) O (CF _ _ _ _ _ _) ?_;rw[Ce];refine dA.nil (id:=t) (j:=X.length+3) (aH rfl) (Ah _ _ _ _ _ _) ?_;refine B' old (.aO none 0 0) _ (Old.le_refl _) (.inr ⟨rfl,rfl,rfl⟩) ?_ ?_
   .simp only[dH];rw[aH trivial,D7]
   .intro k u f
    simp only[dH];rw[au f,au f];exact P k u f
end
end
section
variable{cs:List AV}{j:Nat}
theorem rH{E:Env}{t:TypeId}{z:Nat}(a:(E.tt.get t).map (·.isAgg)=some true)(d:(E.tt.get t).map (·.size)=some z){b off:Nat}{l:List AV}(e:iI E.old b off z=some l)(h:AH):loadT E h t (OLD+b) off=some (.agg l):=by
 obtain⟨ti,c,rfl⟩:=aN.1 d;rw[c]at a;exact rR c (by simpa using a) e
theorem ny.xO{old:Old}{l:List T}(h:ny old cs l):AV.dX 0 cs=true:=by
 induction h with
 |nil=>rfl
 |cons a b _ _ _ c=>
  show(true&&(AV.low 0 _&&(true&&(AV.low 0 _&&_))))=true;rw[qI a,qI b,c];rfl
theorem Pe{ts:List T}{t:T}(h:ts[j]? =some t):gP (ts.take (j+1))=gP (ts.take j)+t.size:=by
 induction ts generalizing j with
 |nil=>cases h
 |cons u ts a=>
  cases j with
  |zero=>cases h;show t.size+gP (ts.take 0)=gP []+t.size;rw[List.take_zero];show t.size+0=0+t.size;omega
  |succ j=>
   show u.size+gP (ts.take (j+1))=u.size+gP (ts.take j)+t.size;rw[a h];omega
theorem T.size_pos:∀t:T,1<=t.size| .node _ _ _ ks=>by show 1<=gP ks+1;omega
theorem wO:∀ts:List T,ts.length<=gP ts
 |[]=>ah _
 |t::ts=>by
  have:=wO ts;have:=t.size_pos;show ts.length+1<=t.size+gP ts;omega
section
variable(P:Fe)(U:Ge)(Q:∀old,Fw old)(V:∀old,Gw old)
include P U Q V
theorem RZ{old:Old}{X lo ln lc w Y Z a kc t p q off:Nat}{A B:AV}{W Ks:List AV}{C:Int}{ks:List Int}{R:rP}(n:a<=1048576)(D:ks.length=a)(hK:iI old Y Z a=some (ks.map zI))(o:W[off+3]? =some (.sl q 0 a (some a))):
 ∀(r y:Nat),y+r=a->∀{s N:Nat} {S:List AV} {g:Bool} {u:Option Nat} {m:Mm},m s= .cells S 168 g false->m t= .cells W 28 false false->m p=pB t off C->m q= .cells Ks 28 false false->[s,t,p,q].Nodup->(∀x∈[s,t,p,q],x<N)->N+2*r<=OLD->tJ u g S (w+y)->w+a<=268435456->
 (∀i,i<y->S[2*(w+i)]? =some (.ptr q (i*4))∧∃k,ks[i]? =some k∧S[2*(w+i)+1]? =some (zI k))->
 (∀d l e g' z,z d= .cells l 168 g' false->(d=s∨N<=d)->d<N+2*r->tJ e g' l (w+a)->(∀i,i<2*(w+y)->l[i]? =S[i]?)->(∀i,i<a->l[2*(w+i)]? =some (.ptr q (i*4))∧∃k,ks[i]? =some k∧l[2*(w+i)+1]? =some (zI k))->(∀k,k<N->k≠s->z k=m k)->
  dA prog E old (OT X lo ln lc A B (.sl d 0 (w+a) e)) z (N+2*r) R)->
 dA prog E old (NH X lo ln lc A B (.ptr p 0) (.aO (some (Y,Z)) a kc) (.sl s 0 (w+y) u) a (y:Int)) m N R
 |0,y,hr,s,N,S,g,u,m,F,G,hp,H,I,b,hO,f,hw,j,B'=>by
  obtain rfl:y=a:=by omega
  exact Wu P U Q V (Int.le_refl _) (by omega) (by have:=b p (by simp);omega) (B' s S u g m F (.inl rfl) (by have:=b s (by simp);omega) f (λ_ _=>rfl) j (λ_ _ _=>rfl))
 |r+1,y,hr,s,N,S,g,u,m,F,G,hp,H,I,b,hO,f,hw,j,B'=>by
  have hy:y<a:=by omega
  obtain⟨J,c⟩:∃k,ks[y]? =some k:=⟨_,aK (by omega)⟩;refine adG P U Q V F G hp H I b (by omega) f (by omega) hy (λh=>gB (by kernel_rfl) (by rw[bW];exact iY hK (by rw[eu,c];rfl))) o n ?_;intro d l e g' z c1 K c3 L c5 c6 c7;have hsN:=b s (by simp);have M:=b t (by simp);have O:=b p (by simp);have T:=b q (by simp);have v:=I;simp only[fJ,ay,aB,bn,not_or]at v;obtain⟨⟨d1,d2,d3⟩,⟨d4,d5⟩,d6,_⟩:=v;refine RZ n D hK o r (y+1) (by omega) (N:=N+2) c1 (by rw[c7 t M (by omega)];exact G) (by rw[c7 p O (by omega)];exact hp) (by rw[c7 q T (by omega)];exact H) ?_ ?_ (by omega) c3 hw ?_ ?_
  .simp only[fJ,ay,aB,bn,not_or]
   rcases K with rfl|⟨K,_⟩
   .exact⟨⟨d1,d2,d3⟩,⟨d4,d5⟩,d6,by simp⟩
   .exact⟨⟨by omega,by omega,by omega⟩,⟨d4,d5⟩,d6,by simp⟩
  .intro x hx
   simp only[ay,aB,bn]at hx;rcases hx with rfl|rfl|rfl|rfl<;>omega
  .intro i hi
   by_cases h:i<y
   .obtain⟨a1,k,a2,a3⟩:=j i h
    exact⟨by rw[L _ (by omega)];exact a1,k,a2,by rw[L _ (by omega)];exact a3⟩
   .obtain rfl:i=y:=by omega
    exact⟨c5,J,c,c6⟩
  .intro s2 S2 cp2 g2 m2 e1 e2 e3 e4 e5 e6 e7
   have:=B' s2 S2 cp2 g2 m2 e1 (by omega) (by omega) e4 (λi hi=>(e5 i (by omega)).trans (L i hi)) e6 (λk h1 h2=>by
    by_cases h3:k=d
    .rcases K with h4|h4
     .omega
     .omega
    .rw[e7 k (by omega) h3];exact c7 k h1 h2)
   rw[show N+2*(r+1)=N+2+2*r by omega]at this;exact this
def Yd(L:List LN)(e lo lc fu x:Nat):Prop:=
 ∀(old:Old) (w s t N:Nat) (A B:AV) (S X c Y:List AV) (g:Bool) (h:Option Nat) (m:Mm) (R:rP) (cs:List AV),Aw old cs L->iI old e lo (L.length*4)=some cs->
  m s= .cells S 168 g false->m t= .cells (X++(c++Y)) 28 false false->c.length=4->s≠t->s<N->t<N->N+7*(qA L fu x).size<=OLD+2->tJ h g S (w+1)->w+(qA L fu x).size<=268435456->S[2*w]? =some (.ptr t X.length)->S[2*w+1]? =some (zI x)->
  (∀old' a f b g' j d N',Old.le old old'->d a= .cells f 168 g' false->(a=s∨N<=a)->a<N'->tJ b g' f w->(∀i,i<2*w->f[i]? =S[i]?)->ny old' j [qA L fu x]->d t= .cells (X++(j++Y)) 28 false false->(∀k,k<N->k≠s->k≠t->d k=m k)->N<=N'->N'+2<=N+7*(qA L fu x).size->
   dA prog E old' (OT e lo L.length lc A B (.sl a 0 w b)) d N' R)->
  dA prog E old (OT e lo L.length lc A B (.sl s 0 (w+1) h)) m N R
theorem aaq{L:List LN}{x lo lc fu:Nat}{ks:List Int}(X:∀k∈ks,Yd L x lo lc fu k.toNat)(l:∀k∈ks,0<=k):
 ∀(j:Nat),j<=ks.length->∀{old:Old} {w s q N:Nat} {A B:AV} {S Z D:List AV} {g:Bool} {h:Option Nat} {m:Mm} {R:rP} {cs:List AV},Aw old cs L->iI old x lo (L.length*4)=some cs->
 m s= .cells S 168 g false->m q= .cells (Z++D) 28 false false->Z.length=j*4->s≠q->s<N->q<N->N+7*gP ((ks.map λk=>qA L fu k.toNat).take j)<=OLD+2*j->tJ h g S (w+j)->w+gP ((ks.map λk=>qA L fu k.toNat).take j)<=268435456->
 (∀i,i<j->S[2*(w+i)]? =some (.ptr q (i*4))∧∃k,ks[i]? =some k∧S[2*(w+i)+1]? =some (zI k))->ny old D ((ks.map λk=>qA L fu k.toNat).drop j)->
 (∀old' a y b g' D' n N',Old.le old old'->n a= .cells y 168 g' false->(a=s∨N<=a)->a<N'->tJ b g' y w->(∀i,i<2*w->y[i]? =S[i]?)->ny old' D' (ks.map λk=>qA L fu k.toNat)->n q= .cells D' 28 false false->(∀k,k<N->k≠s->k≠q->n k=m k)->N<=N'->N'+2*j<=N+7*gP ((ks.map λk=>qA L fu k.toNat).take j)->
  dA prog E old' (OT x lo L.length lc A B (.sl a 0 w b)) n N' R)->
 dA prog E old (OT x lo L.length lc A B (.sl s 0 (w+j) h)) m N R
 |0,hj,old,w,s,q,N,A,B,S,Z,D,g,h,m,R,cs,G,H,I,J,hZ,c,d,o,Y,e,hw,f,K,B'=>by
  obtain rfl:Z=[]:=bB.1 (by omega);exact B' old s S h g D m N (Old.le_refl _) I (.inl rfl) d e (λ_ _=>rfl) (by simpa using K) J (λ_ _ _ _=>rfl) (ah _) (dZ _ _)
 |j+1,hj,old,w,s,q,N,A,B,S,Z,D,g,h,m,R,cs,G,H,I,J,hZ,c,d,o,Y,e,hw,f,K,B'=>by
  obtain⟨a1,k,a2,a3⟩:=f j (by omega);have p:k∈ks:=bE a2;have ht:(ks.map λk=>qA L fu k.toNat)[j]? =some (qA L fu k.toNat):=by rw[eu,a2];rfl
  have r:=Pe ht;rw[r]at Y hw;have hjs:j<=gP ((ks.map λk=>qA L fu k.toNat).take j):=by
   have:=wO ((ks.map λk=>qA L fu k.toNat).take j);rw[fM,bH]at this;omega
  have t:(Z.take (j*4)).length=j*4:=by rw[fM];omega
  have M:(Z.drop (j*4)).length=4:=by rw[mJ];omega
  have O:Z++D=Z.take (j*4)++(Z.drop (j*4)++D):=by rw[← fC,fq]
  have hk:=l k p;refine X k p old (w+j) s q N A B S (Z.take (j*4)) (Z.drop (j*4)) D g h m R cs G H I (by rw[← O];exact J) M c d o (by omega) e (by omega) (by rw[t];exact a1) (by rw[Int.toNat_of_nonneg hk];exact a3) ?_;intro old' a y b g' c' n N' z b2 C b4 b5 T b7 b8 b9 b10 b11;refine aaq X l j (by omega) (w:=w) (Z:=Z.take (j*4)) (D:=c'++D) (G.mono z) (mE z H) b2 b8 t ?_ b4 (by omega) (by omega) b5 (by omega) ?_ ?_ ?_
  .rcases C with rfl|C
   .exact c
   .omega
  .intro i hi
   obtain⟨e1,u,e2,F⟩:=f i (by omega);exact⟨by rw[T _ (by omega)];exact e1,u,e2,by rw[T _ (by omega)];exact F⟩
  .have hd:(ks.map λk=>qA L fu k.toNat).drop j=qA L fu k.toNat::(ks.map λk=>qA L fu k.toNat).drop (j+1):=by
    obtain⟨h1,W⟩:=aJ.1 ht;rw[bL h1,W]
   rw[hd];exact b7.app (K.mono z)
  .intro v s2 S2 cp2 g2 D2 m2 N2 e1 e2 F e4 e5 e6 e7 e8 e9 e10 e11
   refine B' v s2 S2 cp2 g2 D2 m2 N2 (Old.le_trans z e1) e2 ?_ e4 e5 (λi hi=>(e6 i hi).trans (T i (by omega))) e7 e8 ?_ (by omega) (by rw[r];omega)
   .rcases F with rfl|F
    .exact C
    .exact .inr (by omega)
   .intro u h1 W h3
    by_cases h4:u=a
    .rcases C with h5|h5
     .omega
     .omega
    .rw[e9 u (by omega) h4 h3];exact b9 u h1 W h3
theorem RY{L:List LN}{lb lo lc:Nat}(I:∀l∈L,l.args.length<=268435456∧l.kids.length<=1048576):∀(fu x:Nat),OkL L fu x->Yd L lb lo lc fu x
 |0,x,h=>h.elim
 |fu+1,x,⟨l,hl,hk⟩=>by
  intro old w s t N A B S X c Y g cp m R cs hL hC hs ht hc e u J hO v hw h1 h2 B';have K:qA L (fu+1) x= .node l.rel l.args l.rule (l.kids.map λk=>qA L fu k.toNat):=by
   show(match L[x]? with |some (l:LN)=>T.node l.rel l.args l.rule (l.kids.map λ(k:Int)=>qA L fu k.toNat)|none=> .node [] [] 0 [])=_;rw[hl]
  have f:(qA L (fu+1) x).size=gP (l.kids.map λk=>qA L fu k.toNat)+1:=by rw[K];rfl
  have M:x<L.length:=(aJ.1 hl).1;obtain⟨a,k,k1,k2,k3⟩:=hL.at hC hl;obtain⟨ba,bk⟩:=I l (bE hl);have hX:∀h:AH,loadT (E.wo old) h 65 (OLD+lb) (lo+x*4)=some (.agg [.str l.rel,a,zI l.rule,k]):=λh=>rH (E:=E.wo old) (by kernel_rfl) (by kernel_rfl) k1 h;rw[f]at hO hw;have fin:∀(old':Old) (y C:AV) (ks:List AV) (z:Nat) (G:List AV) (n:Option Nat) (g':Bool) (r:Mm) (N':Nat),Old.le old old'->iM old' y l.args->vv old' C (l.kids.map λk=>qA L fu k.toNat).length 4 ks->ny old' ks (l.kids.map λk=>qA L fu k.toNat)->r z= .cells G 168 g' false->(z=s∨N<=z)->z<N'->tJ n g' G w->(∀i,i<2*w->G[i]? =S[i]?)->r t= .cells (X++([.str l.rel,y,zI l.rule,C]++Y)) 28 false false->(∀k,k<N->k≠s->k≠t->r k=m k)->N<=N'->N'+2<=N+7*(gP (l.kids.map λk=>qA L fu k.toNat)+1)->
   dA prog E old' (OT lb lo L.length lc A B (.sl z 0 w n)) r N' R:=λold' y C ks z G n g' r N' q1 q2 q3 q4 q5 q6 q7 q8 q9 q10 q11 q12 q13=>
   B' old' z G n g' _ r N' q1 q5 q6 q7 q8 q9 (by rw[K];exact .cons q2 q3 q4 .nil) q10 q11 q12 (by rw[f];exact q13)
  by_cases h0:l.kids=[]
  .have:∃pk kc,k= .aO pk 0 kc:=by
    rw[h0]at k3;rcases k3 with⟨b,o,kc,rfl,_⟩|⟨rfl,_,_⟩
    .exact⟨_,_,rfl⟩
    .exact⟨_,_,rfl⟩
   obtain⟨pk,kc,rfl⟩:=this;refine abK P U Q V hs ht hc e u J (by omega) v (by omega) h1 h2 M hX k2 ba ?_;intro old' y r H b2 b3 b4;refine fin old' y (.aO none 0 0) [] s S cp g r (N+5) H b2 (by rw[h0];exact .inr ⟨rfl,rfl,rfl⟩) (by rw[h0];exact .nil) (by rw[b4 s u e];exact hs) (.inl rfl) (by omega) v.pop (λ_ _=>rfl) b3 (λk h3 h4 h5=>b4 k h3 h5) (by omega) (by omega)
  .have O:0<l.kids.length:=bY.2 h0
   rcases k3 with⟨kb,ko,kc,rfl,hK⟩|⟨_,h00,_⟩
   .rw[bW]at hK
    refine abJ P U Q V hs ht hc e u J (by omega) v (by omega) h1 h2 M hX k2 ba O bk ?_;intro old' y p q r H b2 b3 b4 b5 b6 b7 b8 b9 W b11;have hsz:=wO (l.kids.map λk=>qA L fu k.toNat);rw[bH]at hsz;refine RZ P U Q V (w:=w) (t:=t) (p:=p) (q:=q) (off:=X.length) bk rfl (mE H hK) (Ah _ _ _ _ _ _) l.kids.length 0 (by omega) (m:=r) (by rw[b11 s u e];exact hs) W b8 b9 ?_ ?_ (by omega) v.pop (by omega) (λi hi=>aP hi (iq _)) ?_
    .simp only[fJ,ay,aB,bn,not_or]
     exact⟨⟨e,by omega,by omega⟩,⟨by omega,by omega⟩,b7,by simp⟩
    .intro x M
     simp only[ay,aB,bn]at M;rcases M with rfl|rfl|rfl|rfl<;>omega
    .intro z G n g' m2 c1 c2 c3 c4 c5 c6 c7
     have d:(l.kids.map λk=>qA L fu k.toNat).take l.kids.length=l.kids.map λk=>qA L fu k.toNat:=jk (by rw[bH];exact ah _);refine aaq P U Q V (ks:=l.kids) (λk F=>RY I fu k.toNat (hk k F).2) (λk F=>(hk k F).1) l.kids.length (ah _) (w:=w) (q:=q) (Z:=rep l.kids.length z4) (D:=[]) (hL.mono H) (mE H hC) c1 ?_ (by rw[uE];rfl) ?_ c3 (by omega) (by rw[d];omega) c4 (by rw[d];omega) c6 ?_ ?_
     .rw[bD,c7 q (by omega) (by omega)];exact b9
     .omega
     .rw[List.drop_of_length_le (by rw[bH];exact ah _)];exact .nil
     .intro old3 s3 S3 cp3 g3 D3 m3 N3 e1 e2 e3 e4 e5 e6 e7 e8 e9 e10 e11
      rw[d]at e11;have ht3:m3 t= .cells (X++([.str l.rel,y,zI l.rule,.sl q 0 l.kids.length (some l.kids.length)]++Y)) 28 false false:=by
       rw[e9 t (by omega) (by omega) (by omega),c7 t (by omega) (by omega)];exact W
      refine dA.BD (id:=q) (i:=t) (j:=X.length+3) e8 (nU e7.xO) ht3 (by omega) (Ah _ _ _ _ _ _) ?_;intro old4 b4' c4' f1 f2 f3;rw[D7];refine fin old4 y (.aO (some (b4',0)) l.kids.length c4') D3 s3 S3 cp3 g3 _ N3 (Old.le_trans H (Old.le_trans e1 f1)) (b2.mono (Old.le_trans e1 f1)) (.inl ⟨b4',0,c4',by rw[bH],?_⟩) (e7.mono f1) ?_ (by omega) e4 e5 ?_ ?_ ?_ (by omega) (by omega)
      .have:=know f3
       rw[e7.len,bH]at this;rw[bH];exact this
      .simp only[dH];rw[au (by omega),au (by omega)];exact e2
      .intro i hi;rw[e6 i hi,c5 i (by omega)]
      .simp only[dH];rw[aH trivial]
      .intro C h3 h4 h5
       simp only[dH];rw[au h5,au (by omega),e9 C (by omega) (by omega) (by omega),c7 C (by omega) (by omega)];exact b11 C h3 h5
   .exact aP h00 (by omega)
end
end
section
variable{N j kc kn x:Nat}{R:rP}{S:List AV}{SV:AV}{cp:Option Nat}{m:Mm}
noncomputable def fT:List AI:=aaF
noncomputable def agz:List AI:=aaE
noncomputable def agy:List AI:=aaD
noncomputable def IJ(B a st:AV):AF:=⟨⟨6,false,none,128⟩,zO (zO (zO (zL st) .e) (zL B)) (zN .e .aM (zL a)),fT,[],false⟩
noncomputable def za(B a st Y:AV):AF:=⟨⟨6,false,none,128⟩,zO (zO (zO (zL st) .e) (zL B)) (zN .e .aM (zN (zL Y) a .e)),agz,[],false⟩
noncomputable def uP(B a st:AV)(i:Int):AF:=⟨⟨6,false,none,128⟩,zO (zO (zO (zL st) (zL (zI i))) (zL B)) (zN .e .aM (zL a)),agy,[],false⟩
theorem Gg(ρ:Nat->Nat)(B a st:AV):(IJ B a st).ren ρ=IJ (B.ren ρ) (a.ren ρ) (st.ren ρ):=rfl
theorem NQ(ρ:Nat->Nat)(B a st Y:AV):(za B a st Y).ren ρ=za (B.ren ρ) (a.ren ρ) (st.ren ρ) (Y.ren ρ):=rfl
def FR(a:Option Nat)(g:Bool)(S:List AV)(len:Nat):Prop:=(a=none∧g=true∧len<=S.length)∨(a=some 1∧g=false∧S.length=1∧len<=1)
theorem FR.pop{g:Bool}{w:Nat}(h:FR cp g S (w+1)):FR cp g S w:=by
 rcases h with⟨a,b,c⟩|⟨a,b,c,d⟩
 .exact .inl ⟨a,b,by omega⟩
 .exact .inr ⟨a,b,c,by omega⟩
def afE(a:AV)(j:Nat):Prop:=(a= .aM∧j=0)∨∃q c,a= .sl q 0 j c
def up:Nat->Nat->List Nat
 |_,0=>[]
 |N,k+1=>N::up (N+1) k
theorem QU:∀(k N:Nat),∀x∈up N k,N<=x∧x<N+k
 |0,N,x,h=>by cases h
 |k+1,N,x,h=>by
  rcases ay.1 (show x∈N::up (N+1) k from h)with rfl|h
  .omega
  .have:=QU k (N+1) x h;omega
theorem aac:∀(k N:Nat),(up N k).Nodup
 |0,_=>List.nodup_nil
 |k+1,N=>fJ.2 ⟨λh=>by have:=QU k (N+1) N h;omega,aac k (N+1)⟩
theorem Pm.mk'{l:List Nat}{N k:Nat}(a:List Nat)(e:a.Nodup)(d:a.length=l.length+k)(f:∀x∈a,x<100)(g:l.Nodup)(c:∀x∈l,x<N)(i:N+k<=OLD):∃θ:Pm,a.map θ.to=l++up N k:=by
 have j:(up N k).length=k:=by
  clear d i;induction k generalizing N with
  |zero=>rfl
  |succ k m=>show(up (N+1) k).length+1=k+1;rw[m λx b=>by have:=c x b;omega]
 refine Pm.of a (l++up N k) (by rw[d,fF,j]) e ?_ (λx b=>by have:=f x b;unfold OLD;omega) (λx b=>?_)
 .rw[List.nodup_append]
  refine⟨g,aac k N,λx b y n=>?_⟩;have:=c x b;have:=QU k N y n;omega
 .rcases bF.1 b with h|h
  .have:=c x h;omega
  .have:=QU k N x h;omega
section
variable(W:Fe)(Y:Ge)(X:∀old,Fw old)(Z:∀old,Gw old)
include W Y X Z
theorem aec{old:Old}{B f:AV}{g:Bool}{w s a to o ok:Nat}
 (hs:m s= .cells S 56 g false)(U:m x= .cells [.ptr (OLD+a) to,f] 58 false false)(L:s≠x)(hsN:s<N)(hxN:x<N)(V:N+3<=OLD)(M:FR cp g S (w+1))(hw:w<=134217000)(hT:S[w]? =some (.ptr x 0))(O:afE f j)
 (hK:∀h:AH,loadT (E.wo old) h 26 (OLD+a) (to+3)=some (.aO (some (o,ok)) kn kc))(hj:j<kn)
 (B':∀z I C g' J,J z= .cells I 56 g' false->(z=s∨(N<=z∧z<N+3))->z≠N->FR C g' I (w+2)->(∀i,i<w+1->I[i]? =S[i]?)->I[w+1]? =some (.ptr N 0)->J N= .cells [.ptr (OLD+o) (ok+j*4),.aM] 58 false false->(∀k,k<N->k≠s->J k=m k)->
  dA prog E old (IJ B SV (.sl z 0 (w+2) C)) J (N+3) R):
 dA prog E old (IJ B SV (.sl s 0 (w+1) cp)) m N R:=by
 obtain⟨θ,P⟩:=Pm.mk' (l:=[s,x]) (N:=N) (k:=3) [0,1,2,3,4] (by decide) rfl (by decide) (by simpa using L) (by simp;omega) V;obtain⟨t0,t1,t2,t3,t4⟩:θ.to 0=s∧θ.to 1=x∧θ.to 2=N∧θ.to 3=N+1∧θ.to 4=N+2:=by
  have h:[θ.to 0,θ.to 1,θ.to 2,θ.to 3,θ.to 4]=[s,x,N,N+1,N+1+1]:=P;simp only[dO,j6]at h;exact h
 have hi:IntKind.i64.wrap ((↑(w+1):Int) - 1)=(↑w:Int):=by rw[dW (by omega) (by omega)];omega
 have eT:(AV.ptr x 0).un θ= .ptr 1 0:=by show AV.ptr (θ.inv x) _=_;rw[← t1,θ.li]
 have p:∀h:AH,h.obj 0= .cells (fQ θ S) 56 g false->loadT (E.wo old) h 56 0 (w*1)=some (.ptr 1 0):=λh ho=>lD (by kernel_rfl) rfl ho (by rw[bW,tK hT,eT]);have r:∀b,θ.to (OLD+b)=OLD+b:=λb=>θ.old _ (dZ _ _);have eO:(AO.cells [.ptr (OLD+a) to,f.un θ] 58 false false).ren θ.to= .cells [.ptr (OLD+a) to,f] 58 false false:=by
  show AO.cells [.ptr (θ.to (OLD+a)) to,(f.un θ).ren θ.to] 58 false false=_;rw[AV.jo,r]
 have t:∀e∈ents (zN (zL (.cells [.ptr (OLD+a) to,f.un θ] 58 false false)) (.cells (fQ θ S) 56 g false) .e),m (θ.to e.1)=e.2.ren θ.to∧θ.to e.1∈[s,x,N,N+1,N+2]:=λe n=>by
  have n:e∈[(0,AO.cells (fQ θ S) 56 g false),(1,.cells [.ptr (OLD+a) to,f.un θ] 58 false false)]:=n;simp only[ay,aB,bn]at n;rcases n with rfl|rfl
  .exact⟨by rw[t0,hs,iT],by rw[t0];simp⟩
  .exact⟨by rw[t1,U,eO],by rw[t1];simp⟩
 have D:∀(F:Nat) (cp2:Option Nat) (d:AH),jv (E.wo old) (iK Qw (.cells [.ptr (OLD+a) to,f.un θ] 58 false false) (.cells (fQ θ S) 56 g false) (UJ o ok j)) .append [.sl 0 0 (w+1) cp,.sl 3 0 1 (some 1)] [59,59]=some (.val (.sl F 0 (w+2) cp2) d)->
  DS old (IJ (B.un θ) (SV.un θ) (.sl 0 0 (w+1) cp)) (ji (.cells [.ptr (OLD+a) to,f.un θ] 58 false false) (.cells (fQ θ S) 56 g false)) (IJ (B.un θ) (SV.un θ) (.sl F 0 (w+2) cp2)) d:=λF cp2 d A=>by
  rcases O with⟨rfl,rfl⟩|⟨q,c,rfl⟩
  .exact agn W Y old (X old) (Z old) (B.un θ) (SV.un θ) (fQ θ S) g cp w (by omega) hi p a to o ok kn kc hK hj F cp2 d A (aA (by omega)) (aA (by omega))
  .exact agm W Y old (X old) (Z old) (B.un θ) (SV.un θ) (fQ θ S) g cp w (by omega) hi p a to o ok kn kc hK (θ.inv q) j c hj F cp2 d A (aA (by omega)) (aA (by omega))
 have ha:FN (E.wo old) 59 59=some (56,1):=by kernel_rfl
 have e3:[AV.ptr 2 0]=fQ θ [.ptr N 0]:=by
  show _=[AV.ptr (θ.inv N) 0];rw[← t2,θ.li]
 have main:∀(cp2:Option Nat) (d:AH) (v:List AV) (G:Bool),jv (E.wo old) (iK Qw (.cells [.ptr (OLD+a) to,f.un θ] 58 false false) (.cells (fQ θ S) 56 g false) (UJ o ok j)) .append [.sl 0 0 (w+1) cp,.sl 3 0 1 (some 1)] [59,59]=some (.val (.sl 4 0 (w+2) cp2) d)->
  d.tr.get 1=some (.cells [.ptr (OLD+a) to,f.un θ] 58 false false)->d.tr.get 2=some (UJ o ok j)->d.tr.get 4=some (.cells (fQ θ v) 56 G false)->Nat.ble d.nx 5=true->d.df=0->
  FR cp2 G v (w+2)->(∀i,i<w+1->v[i]? =S[i]?)->v[w+1]? =some (.ptr N 0)->dA prog E old (IJ B SV (.sl s 0 (w+1) cp)) m N R:=λcp2 d v G A g1 gp gs y Q q1 q2 q3=>by
  have D:=D 4 cp2 d A;have y:=aF y;refine dA.lift (θ:=θ) (N':=N+3) (l:=[(s,.dead),(x,.cells [.ptr (OLD+a) to,f] 58 false false),(N,.cells [.ptr (OLD+o) (ok+j*4),.aM] 58 false false),(N+1,.dead),(N+2,.cells v 56 G false)])
   ⟨λe n=>(t e n).1,λe n=>(t e n).2,λe n H=>?_,λi h1 h2=>?_,by omega,aW (aQ y (by decide)),V,rfl,Q⟩ D ⟨rfl,rfl,rfl⟩ ⟨rfl,rfl,rfl⟩ ?_ rfl ?_
  .simp only[ay,aB,bn]at n
   rcases n with rfl|rfl|rfl|rfl|rfl
   .exact H.elim
   .exact⟨1,_,g1,t1,eO⟩
   .refine⟨2,_,gp,t2,?_⟩
    show AO.cells [.ptr (θ.to (OLD+o)) _,.aM] 58 false false=_;rw[r]
   .exact H.elim
   .exact⟨4,_,gs,t4,iT _ _ _ _ _⟩
  .have h1:2<=i:=h1
   rcases(by omega:i=2∨i=3∨i=4)with rfl|rfl|rfl
   .rw[t2];omega
   .rw[t3];omega
   .rw[t4];omega
  .rw[Gg,AV.jo,AV.jo]
   show _=IJ B SV (.sl (θ.to 0) 0 (w+1) cp);rw[t0]
  .have e:(IJ (B.un θ) (SV.un θ) (.sl 4 0 (w+2) cp2)).ren θ.to=IJ B SV (.sl (N+2) 0 (w+2) cp2):=by
    rw[Gg,AV.jo,AV.jo];show IJ B SV (.sl (θ.to 4) 0 (w+2) cp2)=_;rw[t4]
   rw[e];refine B' (N+2) v cp2 G _ ?_ (.inr ⟨by omega,by omega⟩) (by omega) q1 q2 q3 ?_ (λk hk1 T=>?_)
   .simp only[dH];rw[au (by omega),au (by omega),au (by omega),au (by omega),aH trivial]
   .simp only[dH];rw[au (by omega),au (by omega),aH trivial]
   .simp only[dH]
    rw[au T];by_cases k1:k=x
    .rw[aH k1,k1,U]
    .rw[au k1,au (by omega),au (by omega),au (by omega)]
 rcases M with⟨rfl,rfl,K⟩|⟨rfl,rfl,K,hw1⟩
 .have u:(S.take ((w+1)*1)).length=w+1:=by rw[fM];omega
  have e5:(fQ θ S).take ((w+1)*1)++[.ptr 2 0]=fQ θ (S.take ((w+1)*1)++[.ptr N 0]):=by rw[Mc,mo,e3]
  refine main none _ (S.take ((w+1)*1)++[.ptr N 0]) true (BN (id:=0) (len:=w+1) (id2:=3) (off2:=0) (cc:=some 1) (vs:=fQ θ S) (cs:=[.ptr 2 0]) ha rfl (by rw[nI];omega) (by omega) rfl rfl rfl) rfl rfl (by rw[← e5];rfl) rfl rfl (.inl ⟨rfl,rfl,by rw[fF,u];simp⟩) (λi hi=>?_) ?_
  .rw[aU (by omega),ig,aH (by omega)]
  .rw[aY (by omega),u,oN];rfl
 .obtain rfl:w=0:=by omega
  have A:=vR (h:=(iK Qw (.cells [.ptr (OLD+a) to,f.un θ] 58 false false) (.cells (fQ θ S) 56 false false) (UJ o ok j))) (sz:=1) (id:=0) (len:=1) (id2:=3) (off2:=0) (cc:=some 1) (vs:=fQ θ S) (cs:=[.ptr 2 0]) ha (by
   show takeN (fQ θ S) 0 1=_;rw[show 1=(fQ θ S).length by rw[nI,K]];exact zR _) (by decide) rfl
  refine main none _ (S++[.ptr N 0]) true A rfl rfl (by rw[mo,← e3];rfl) rfl rfl (.inl ⟨rfl,rfl,by rw[fF,K];exact ah _⟩) (λi hi=>?_) ?_
  .rw[aU (by omega)]
  .rw[aY (by omega),K];rfl
end
end
section
variable(Y:Fe)(Z:Ge)
include Y Z
theorem ics(old:Old)(F:Fw old)(FF:Gw old)(a b:Option (Nat×Nat))(n c m d:Nat):DS old (ent (E.wo old) 53 (ni a n c b m d)) ⟨.e,0,0⟩ (Fq (zI 0) (.aO b m d) (.aO a n c) (.aO a n c) (zI (↑n:Int))) ⟨.e,0,0⟩:=
 jK F FF [0,1,9,10,11] (Qn 13) (by kernel_rfl)
theorem ic4(old:Old)(F:Fw old)(FF:Gw old)(a b f g:Nat)(n m c d:Nat)(i x y:Int)(h0:0<=i)(h1:i<n)(j:i<m)(l:∀h,loadT (E.wo old) h 3 (OLD+a) (b+i.toNat*1)=some (zI x))(o:∀h,loadT (E.wo old) h 3 (OLD+f) (g+i.toNat*1)=some (zI y))(p:(decide (i<(↑n:Int)))=true)(o2:(decide (i≥(↑m:Int)))=false)(q:(aL x y !=0)=true):DR old (Fq (zI i) (.aO (some (f,g)) m d) (.aO (some (a,b)) n c) (.aO (some (a,b)) n c) (zI (↑n:Int))) ⟨.e,0,0⟩ (zI (aL x y)) ⟨.e,0,0⟩:=
 MJ F FF (obs:=[some true=some true,some (AV.bool (decide (i<(↑n:Int))))=some (AV.bool true),some true=some true,aR (E.wo old) 55 (l9 (E.wo old) (.aO (some (a,b)) n c)) (zI i)=some (zP (1152921504606846976+a) (b+i.toNat*1)),some true=some true,loadT (E.wo old) ⟨.e,0,0⟩ 3 (1152921504606846976+a) (b+i.toNat*1)=some (zI x),some true=some true,some (AV.bool (decide (i≥(↑m:Int))))=some (AV.bool false),some true=some true,aR (E.wo old) 55 (l9 (E.wo old) (.aO (some (f,g)) m d)) (zI i)=some (zP (1152921504606846976+f) (g+i.toNat*1)),some true=some true,loadT (E.wo old) ⟨.e,0,0⟩ 3 (1152921504606846976+f) (g+i.toNat*1)=some (zI y),DC old 52 [zI x,zI y] ⟨.e,0,0⟩ (zI (aL x y)) ⟨.e,0,0⟩,some true=some true,some (AV.bool (aL x y !=0))=some (AV.bool true)]) [.n 2,.v (.bool true),.n 9,.v (zP (1152921504606846976+a) (b+i.toNat*1)),.v (zI x),.n 9,.v (.bool false),.n 7,.v (zP (1152921504606846976+f) (g+i.toNat*1)),.v (zI y),.n 6,.k (zI (aL x y)) ⟨.e,0,0⟩,.n 5,.v (.bool true),.n 8] (by kernel_rfl) ⟨rfl,fZ (λz=>some (AV.bool z)) p,rfl,xR (e:=3) (by kernel_rfl) (by kernel_rfl) rfl h0 h1,rfl,l _,rfl,fZ (λz=>some (AV.bool z)) o2,rfl,xR (e:=3) (by kernel_rfl) (by kernel_rfl) rfl h0 j,rfl,o _,DoesC.ov (C9 Y Z old F FF x y) rfl rfl rfl (by kernel_rfl),rfl,fZ (λz=>some (AV.bool z)) q⟩
theorem ic5(old:Old)(F:Fw old)(FF:Gw old)(a b f g:Nat)(n m c d:Nat)(i x y:Int)(h0:0<=i)(h1:i<n)(j:i<m)(l:∀h,loadT (E.wo old) h 3 (OLD+a) (b+i.toNat*1)=some (zI x))(o:∀h,loadT (E.wo old) h 3 (OLD+f) (g+i.toNat*1)=some (zI y))(p:(decide (i<(↑n:Int)))=true)(o2:(decide (i≥(↑m:Int)))=false)(q:(aL x y !=0)=false):DS old (Fq (zI i) (.aO (some (f,g)) m d) (.aO (some (a,b)) n c) (.aO (some (a,b)) n c) (zI (↑n:Int))) ⟨.e,0,0⟩ (Fq (zI (IntKind.i64.wrap (i+1))) (.aO (some (f,g)) m d) (.aO (some (a,b)) n c) (.aO (some (a,b)) n c) (zI (↑n:Int))) ⟨.e,0,0⟩:=
 KL F FF (obs:=[some true=some true,some (AV.bool (decide (i<(↑n:Int))))=some (AV.bool true),some true=some true,aR (E.wo old) 55 (l9 (E.wo old) (.aO (some (a,b)) n c)) (zI i)=some (zP (1152921504606846976+a) (b+i.toNat*1)),some true=some true,loadT (E.wo old) ⟨.e,0,0⟩ 3 (1152921504606846976+a) (b+i.toNat*1)=some (zI x),some true=some true,some (AV.bool (decide (i≥(↑m:Int))))=some (AV.bool false),some true=some true,aR (E.wo old) 55 (l9 (E.wo old) (.aO (some (f,g)) m d)) (zI i)=some (zP (1152921504606846976+f) (g+i.toNat*1)),some true=some true,loadT (E.wo old) ⟨.e,0,0⟩ 3 (1152921504606846976+f) (g+i.toNat*1)=some (zI y),DC old 52 [zI x,zI y] ⟨.e,0,0⟩ (zI (aL x y)) ⟨.e,0,0⟩,some true=some true,some (AV.bool (aL x y !=0))=some (AV.bool false)]) [.n 2,.v (.bool true),.n 9,.v (zP (1152921504606846976+a) (b+i.toNat*1)),.v (zI x),.n 9,.v (.bool false),.n 7,.v (zP (1152921504606846976+f) (g+i.toNat*1)),.v (zI y),.n 6,.k (zI (aL x y)) ⟨.e,0,0⟩,.n 5,.v (.bool false),.n 9] [0,1,9,10,11] (by kernel_rfl) ⟨rfl,fZ (λz=>some (AV.bool z)) p,rfl,xR (e:=3) (by kernel_rfl) (by kernel_rfl) rfl h0 h1,rfl,l _,rfl,fZ (λz=>some (AV.bool z)) o2,rfl,xR (e:=3) (by kernel_rfl) (by kernel_rfl) rfl h0 j,rfl,o _,DoesC.ov (C9 Y Z old F FF x y) rfl rfl rfl (by kernel_rfl),rfl,fZ (λz=>some (AV.bool z)) q⟩
section
variable(X:Old)(F:Fw X)(W:Gw X)
include X F W
theorem ic3(a f:Nat)(b:Option (Nat×Nat))(n m c d:Nat)(i x:Int)(h0:0<=i)(h1:i<n)(k:(m:Int)<=i)(g:∀h,loadT (E.wo X) h 3 (OLD+a) (f+i.toNat*1)=some (zI x))(j:(decide (i<(↑n:Int)))=true)(o2:(decide (i≥(↑m:Int)))=true):DR X (Fq (zI i) (.aO b m d) (.aO (some (a,f)) n c) (.aO (some (a,f)) n c) (zI (↑n:Int))) ⟨.e,0,0⟩ (zI 1) ⟨.e,0,0⟩:=
 prt F W (Qb 2 j (Qv 9 (x55 X a f c h0 h1) (Qv 0 (g ⟨.e,0,0⟩) (Qb 9 o2 (Qn 7))))) (by kernel_rfl)
theorem ic1(a b:Option (Nat×Nat))(n m c d:Nat)(i:Int)(f:(decide (i<(↑n:Int)))=false)(o2:(decide ((↑n:Int)<(↑m:Int)))=true):DR X (Fq (zI i) (.aO b m d) (.aO a n c) (.aO a n c) (zI (↑n:Int))) ⟨.e,0,0⟩ (zI (-1)) ⟨.e,0,0⟩:=
 prt F W (Qb 2 f (Qb 11 o2 (Qn 7))) (by kernel_rfl)
theorem ic2(a b:Option (Nat×Nat))(n m c d:Nat)(i:Int)(f:(decide (i<(↑n:Int)))=false)(o2:(decide ((↑n:Int)<(↑m:Int)))=false):DR X (Fq (zI i) (.aO b m d) (.aO a n c) (.aO a n c) (zI (↑n:Int))) ⟨.e,0,0⟩ (zI 0) ⟨.e,0,0⟩:=
 prt F W (Qb 2 f (Qb 11 o2 (Qn 8))) (by kernel_rfl)
end
end
section
variable{i:Nat}{v:AV}
def vO:List Int->List Int->Int
 |[],[]=>0
 |[],_::_=> -1
 |_::_,[]=>1
 |x::r,y::s=>dQ (aL x y) (vO r s)
def UL(old:Old)(a:Option (Nat×Nat))(i:Nat)(r:List Int):Prop:=r=[]∨∃b o,a=some (b,o)∧iI old b (o+i) r.length=some (r.map zI)
theorem UL.next{old:Old}{a:Option (Nat×Nat)}{x:Int}{r:List Int}(h:UL old a i (x::r)):∃b o,a=some (b,o)∧old b (o+i)=some (zI x)∧UL old a (i+1) r:=by
 rcases h with h|⟨b,o,rfl,h⟩
 .cases h
 .have h1:old b (o+i)=some (zI x):=by have:=iY (j:=0) h rfl;simpa using this
  refine⟨b,o,rfl,h1,?_⟩;rw[gI,Nat.add_comm r.length 1]at h;obtain⟨c,d,e,f,e1,e2⟩:=rG h;obtain⟨k,g⟩:=List.append_inj (s₁:=[zI x]) (t₁:=r.map zI) (s₂:=c) (t₂:=d) e (by rw[f];rfl);subst g;exact .inr ⟨b,o,rfl,by rw[show o+(i+1)=o+i+1 by omega];exact e2⟩
theorem K5{old:Old}{k:AV}{l:List Int}(h:vv old k l.length 1 (l.map zI)):∃a c,k= .aO a l.length c∧UL old a 0 l:=by
 rcases h with⟨b,o,c,rfl,d⟩|⟨rfl,h0,h1⟩
 .exact⟨_,_,rfl,.inr ⟨b,o,rfl,by rw[Nat.add_zero,← bW l.length];exact d⟩⟩
 .rw[h0];exact⟨_,_,rfl,.inl (bB.1 h0)⟩
noncomputable def afL(a:Option (Nat×Nat))(n c:Nat)(b:Option (Nat×Nat))(m d:Nat)(i:Int):AF:=(Fq (zI i) (.aO b m d) (.aO a n c) (.aO a n c) (zI ((↑n:Int))))
section
variable(W:Fe)(Y:Ge)(Z:Old)(F:Fw Z)(X:Gw Z)
include W Y F X
theorem V9(a:Option (Nat×Nat))(n c:Nat)(b:Option (Nat×Nat))(m d:Nat)(r:n<=268435456):∀(r1 r2:List Int) (i:Nat),UL Z a i r1->UL Z b i r2->n=i+r1.length->m=i+r2.length->mO prog (E.wo Z) (afL a n c b m d (↑i:Int)) (zI (vO r1 r2))
 |[],[],i,j,k,h1,e=>mO.it (ic2 W Y Z F X a b n m c d (↑i:Int) (aD (by simp at h1;omega)) (aD (by simp at h1 e;omega))) (by kernel_rfl) rfl
 |[],y::r2,i,j,k,h1,e=>mO.it (ic1 W Y Z F X a b n m c d (↑i:Int) (aD (by simp at h1;omega)) (aA (by simp at h1 e;omega))) (by kernel_rfl) rfl
 |x::r1,[],i,j,k,h1,e=>by
  obtain⟨f,g,rfl,e1,_⟩:=j.next
  exact mO.it (ic3 W Y Z F X f g b n m c d (↑i:Int) x (by omega) (by simp at h1;omega) (by simp at e;omega) (λh=>by rw[bN,bW];exact gB (by kernel_rfl) e1) (aA (by simp at h1;omega)) (aA (by simp at e;show(m:Int)<=i;omega))) (by kernel_rfl) rfl
 |x::r1,y::r2,i,j,k,h1,e=>by
  obtain⟨f,g,rfl,e1,s⟩:=j.next
  obtain⟨l,o2,rfl,e2,t⟩:=k.next
  have l1:∀h,loadT (E.wo Z) h 3 (OLD+f) (g+(↑i:Int).toNat*1)=some (zI x):=λh=>by rw[bN,bW];exact gB (by kernel_rfl) e1
  have l2:∀h,loadT (E.wo Z) h 3 (OLD+l) (o2+(↑i:Int).toNat*1)=some (zI y):=λh=>by rw[bN,bW];exact gB (by kernel_rfl) e2
  have o:(↑i:Int)<(↑n:Int):=by simp at h1;omega
  have q:(↑i:Int)<(↑m:Int):=by simp at e;omega
  show mO _ _ _ (zI (dQ (aL x y) (vO r1 r2)));by_cases p:aL x y=0
  .have A:=ic5 W Y Z F X f g l o2 n m c d (↑i:Int) x y (by omega) o q l1 l2 (aA o) (aD (by omega)) (tC p)
   rw[QN (by simp at h1;omega)]at A;have B:=V9 (some (f,g)) n c (some (l,o2)) m d r r1 r2 (i+1) s t (by simp at h1;omega) (by simp at e;omega);rw[show dQ (aL x y) (vO r1 r2)=vO r1 r2 by unfold dQ;rw[aH p]];exact mO.of (A.aeA rfl (by kernel_rfl) (AF.jd (by kernel_rfl)) (AF.jd (by kernel_rfl))) B
  .rw[show dQ (aL x y) (vO r1 r2)=aL x y by unfold dQ;rw[au p]]
   exact mO.it (ic4 W Y Z F X f g l o2 n m c d (↑i:Int) x y (by omega) o q l1 l2 (aA o) (aD (by omega)) (AY p)) (by kernel_rfl) rfl
theorem c53{w:AV}{l m:List Int}(e:vv Z v l.length 1 (l.map zI))(f:vv Z w m.length 1 (m.map zI))(g:l.length<=268435456):DC Z 53 [v,w] eH (zI (vO l m)) eH:=by
 obtain⟨a,c,rfl,h⟩:=K5 e;obtain⟨b,d,rfl,i⟩:=K5 f;exact DoesC.ofV X (by kernel_rfl) (mO.of (ics W Y Z F X a b l.length c m.length d) (V9 W Y Z F X a l.length c b m.length d g l m 0 h i (by omega) (by omega))) rfl rfl
end
end
end Go.Ev
