/- A part of the proof that ProofBack returns true. -/
import Derived.Test.YtencnjmceojnjaaGreatDoorMyEv4
import Derived.Test.YtencnjmceojnjaaGreatDoorMyEv5
import Derived.Test.YtencnjmceojnjaaGreatDoorMyStates
set_option linter.all false
namespace Go.Ev
open Go.Proofs Go.Proofs.Tryz
set_option maxRecDepth 100000
section
variable{cs:List AV}{n sz:Nat}{old old':Old}{v:AV}
structure PV where
 k:Int
 m:Int
 s:List UInt8
def PV.cells(v:PV):List AV:=[.int .i64 v.k,.int .i64 v.m,.str v.s]
def fH(l:List PV):List AV:=l.flatMap PV.cells
theorem Lj:∀l:List PV,(fH l).length=l.length*3
 |[]=>rfl
 |v::l=>by
  show(PV.cells v++fH l).length=_;rw[bC,Lj l];simp[PV.cells];omega
theorem jg:∀(l:List PV),∀a∈fH l,AV.low 0 a=true
 |[],a,h=>by cases h
 |v::l,a,h=>by
  rcases bQ.1 (show a∈PV.cells v++fH l from h)with h|h
  .simp only[PV.cells,ay,av,aU]at h
   rcases h with rfl|rfl|rfl<;>rfl
  .exact jg l a h
def xQ(old:Old)(v:AV)(n sz:Nat)(cs:List AV):Prop:=
 (∃b o c,v= .aO (some (b,o)) n c∧iI old b o (n*sz)=some cs)∨(v= .aO none 0 0∧n=0∧cs=[])
def iJ(old:Old)(v:AV)(l:List PV):Prop:=xQ old v l.length 3 (fH l)
theorem nI{old a:Old}(h:Old.le old a){b:Nat}:∀{n o:Nat} {cs:List AV},iI old b o n=some cs->iI a b o n=some cs
 |0,o,cs,e=>e
 |n+1,o,cs,e=>by
  unfold iI at e ⊢;cases h1:old b o with
  |none=>rw[h1]at e;cases e
  |some v=>
   cases c:iI old b (o+1) n with
   |none=>rw[h1,c]at e;cases e
   |some r=>
    rw[h1,c]at e;rw[h b o v h1,nI h c];exact e
theorem O1{old:Old}{b:Nat}:∀{cs:List AV} {o:Nat},(∀i a,cs[i]? =some a->old b (o+i)=some a)->iI old b o cs.length=some cs
 |[],_,_=>rfl
 |v::cs,o,h=>by
  have h0:=h 0 v rfl;have h1:=O1 (cs:=cs) (o:=o+1) λi a e=>by
   have:=h (i+1) a (by simpa using e);rw[show o+1+i=o+(i+1)by omega];exact this
  show iI old b o (cs.length+1)=_;unfold iI;rw[show o+0=o from rfl]at h0;rw[h0,h1]
theorem ug{old:Old}{b:Nat}:∀{k n o:Nat} {cs:List AV},iI old b o (k+n)=some cs->∃c1 c2,cs=c1++c2∧c1.length=k∧iI old b o k=some c1∧iI old b (o+k) n=some c2
 |0,n,o,cs,e=>⟨[],cs,rfl,rfl,rfl,by rw[fA]at e;exact e⟩
 |k+1,n,o,cs,e=>by
  rw[show k+1+n=(k+n)+1 by omega]at e;unfold iI at e;cases h1:old b o with
  |none=>rw[h1]at e;cases e
  |some v=>
   cases a:iI old b (o+1) (k+n)with
   |none=>rw[h1,a]at e;cases e
   |some r=>
    rw[h1,a]at e;cases e;obtain⟨c1,c2,rfl,c,d,f⟩:=ug a;refine⟨v::c1,c2,rfl,by simp[c],?_,by rw[show o+(k+1)=o+1+k by omega];exact f⟩;unfold iI;rw[h1,d]
theorem xQ.mono(h:Old.le old old')(H:xQ old v n sz cs):xQ old' v n sz cs:=
 H.imp (λ⟨b,o,c,e,x⟩=>⟨b,o,c,e,nI h x⟩) id
theorem iJ.mono{old a:Old}(h:Old.le old a){v:AV}{l:List PV}(H:iJ old v l):iJ a v l:=xQ.mono h H
theorem iJ.shape{l:List PV}(H:iJ old v l):∃a n c,v= .aO a n c:=by
 rcases H with⟨b,o,c,rfl,_⟩|⟨rfl,_⟩
 .exact⟨_,_,_,rfl⟩
 .exact⟨_,_,_,rfl⟩
theorem jP{n:Nat}:∀{l:List AV},(∀a∈l,AV.low n a=true)->AV.fG n l=true
 |[],_=>rfl
 |x::l,h=>by
  unfold AV.fG;rw[h x (dA ..),jP λa b=>h a (aY _ b)];rfl
end
section
variable{cs:List AV}{old:Old}
inductive T where
 |node (rel:List UInt8) (args:List PV) (rule:Int) (kids:List T)
mutual
def T.size:T->Nat
 | .node _ _ _ ks=>eX ks+1
def eX:List T->Nat
 |[]=>0
 |t::l=>t.size+eX l
end
def T.kids:T->List T| .node _ _ _ ks=>ks
def T.rule:T->Int| .node _ _ r _=>r
def T.rel:T->List UInt8| .node s _ _ _=>s
def T.args:T->List PV| .node _ a _ _=>a
inductive mF(old:Old):List AV->List T->Prop
 |nil:mF old [] []
 |cons {rel:List UInt8} {args:List PV} {rule:Int} {kids:List T} {a k:AV} {ks cs:List AV} {l:List T}:iJ old a args->xQ old k kids.length 4 ks->mF old ks kids->mF old cs l->mF old (.str rel::a:: .int .i64 rule::k::cs) (.node rel args rule kids::l)
theorem mF.len{l:List T}(h:mF old cs l):cs.length=l.length*4:=by
 induction h with
 |nil=>rfl
 |cons _ _ _ _ _ a=>simp[a];omega
theorem mF.mono{old c:Old}(h:Old.le old c){cs:List AV}{l:List T}(H:mF old cs l):mF c cs l:=by
 induction H with
 |nil=>exact .nil
 |cons a b _ _ d e=>exact .cons (iJ.mono h a) (xQ.mono h b) d e
theorem mF.app{ds:List AV}{l m:List T}(h:mF old cs l)(H:mF old ds m):mF old (cs++ds) (l++m):=by
 induction h with
 |nil=>exact H
 |cons a b c _ _ d=>exact .cons a b c d
def JO(old:Old)(v:AV)(t:T):Prop:=∃cs,v= .agg cs∧mF old cs [t]
end
section
open Go.Conc (G)
variable{b:Nat}
theorem lT{z:Int}(h: -4611686018427387904<=z)(h':z<=4611686018427387904):IntKind.i64.wrap z=z:=by
 unfold IntKind.wrap;simp[IntKind.signed,IntKind.bits];omega
theorem wrapN{i:Nat}(h:i<=4611686018427387000):IntKind.i64.wrap ((↑i:Int)+1)=(↑(i+1):Int):=by rw[lT (by omega) (by omega)];omega
mutual
theorem AV.Xl{n:Nat}:∀{a:AV},AV.low 0 a=true->AV.low n a=true
 | .ptr i _,h=>by
   have h:(Nat.blt i 0||Nat.ble OLD i)=true:=h;show(Nat.blt i n||Nat.ble OLD i)=true;rw[show Nat.blt i 0=false by cases c:Nat.blt i 0 with |false=>rfl|true=>rw[dB]at c;omega]at h;rw[show Nat.ble OLD i=true from h,jX]
 | .sl i _ _ _,h=>by
   have h:(Nat.blt i 0||Nat.ble OLD i)=true:=h;show(Nat.blt i n||Nat.ble OLD i)=true;rw[show Nat.blt i 0=false by cases c:Nat.blt i 0 with |false=>rfl|true=>rw[dB]at c;omega]at h;rw[show Nat.ble OLD i=true from h,jX]
 | .map i,h=>by
   have h:(Nat.blt i 0||Nat.ble OLD i)=true:=h;show(Nat.blt i n||Nat.ble OLD i)=true;rw[show Nat.blt i 0=false by cases c:Nat.blt i 0 with |false=>rfl|true=>rw[dB]at c;omega]at h;rw[show Nat.ble OLD i=true from h,jX]
 | .yield i,h=>by
   have h:(Nat.blt i 0||Nat.ble OLD i)=true:=h;show(Nat.blt i n||Nat.ble OLD i)=true;rw[show Nat.blt i 0=false by cases c:Nat.blt i 0 with |false=>rfl|true=>rw[dB]at c;omega]at h;rw[show Nat.ble OLD i=true from h,jX]
 | .fn _ a b,h=>by
   have h:(AV.fG 0 a&&AV.fG 0 b)=true:=h;rw[aF]at h;show(AV.fG n a&&AV.fG n b)=true;rw[AV.qI h.1,AV.qI h.2];rfl
 | .iface _ v,h=>AV.Xl (a:=v) h
 | .agg l,h=>AV.qI (l:=l) h
 | .gI l,h=>AV.qI (l:=l) h
 | .any,_| .one,_| .bool _,_| .int _ _,_| .str _,_| .pO,_| .aQ,_| .emp,_| .aO _ _ _,_| .pF,_| .um,_| .uj,_=>rfl
theorem AV.qI{n:Nat}:∀{l:List AV},AV.fG 0 l=true->AV.fG n l=true
 |[],_=>rfl
 |a::l,h=>by
  have h:(AV.low 0 a&&AV.fG 0 l)=true:=h;rw[aF]at h;show(AV.low n a&&AV.fG n l)=true;rw[AV.Xl h.1,AV.qI h.2];rfl
end
theorem pU{n:Nat}:∀{l m:List AV},AV.fG n l=true->AV.fG n m=true->AV.fG n (l++m)=true
 |[],m,_,h=>h
 |a::l,m,h,h'=>by
  have h:(AV.low n a&&AV.fG n l)=true:=h;rw[aF]at h;show(AV.low n a&&AV.fG n (l++m))=true;rw[h.1,pU h.2 h'];rfl
theorem Sr{n:Nat}{z:List AV}(h:AV.fG n z=true):∀m,AV.fG n (rep m z)=true
 |0=>rfl
 |m+1=>pU h (Sr h m)
theorem wY{n:Nat}:∀{l:List AV},AV.fG n l=true->∀a∈l,AV.low n a=true
 |[],_,a,h=>by cases h
 |b::l,h,a,c=>by
  have h:(AV.low n b&&AV.fG n l)=true:=h;rw[aF]at h;rcases ay.1 c with rfl|c
  .exact h.1
  .exact wY h.2 a c
section
variable{P:Program}{E:Env}{Z:Old}{f:AF}{h Y:AH}{v:AV}{Q:Old->AV->Prop}
theorem fU.does(D:Does P (E.wo Z) f h v Y)(l:Y.nx<=OLD)(m:Y.df=0)(O:CO P E Z Y v Q):fU P E Z f h Q:=λK ι w fr c a i S R n j=>by
 refine(D.2 K ι w fr c a i S R (λk=>by rw[j]at k;cases k) (n.sub (aj _) l)).mono ?_
 rintro d g w' ⟨ι',u,rfl,x,o,p,rfl⟩
 obtain⟨q,b,v2,z2,r,l2,s,t,e⟩:=O K ι' w' u i o p;rw[j];exact⟨q,b,v2,u,rfl,z2,r,l2,s,e,t,m⟩
end
theorem know{old:Old}{vs:List AV}(h:∀o a,vs[o]? =some a->old b o=some a):iI old b 0 vs.length=some vs:=
 O1 λi a e=>by rw[fA];exact h i a e
theorem Dx{old:Old}{b c:Nat}{l:List PV}(h:∀o a,(fH l)[o]? =some a->old b o=some a):iJ old (.aO (some (b,0)) l.length c) l:=
 .inl ⟨b,0,c,rfl,by rw[← Lj];exact know h⟩
end
section
variable{α:Type}{E:Env}{h h':AH}{id off:Nat}{t:TypeId}{v:AV}
theorem Xz(A:List α)(x:α)(R:List α):(A++x::R)[A.length]? =some x:=by simp
theorem WC(b:(E.tt.get t).map (·.size)=some 1){v:Int}(c:fE h id off [zI v]=some h'):jH E h t (zP id off) (zI v)=some (.val iw h'):=by
 obtain⟨ti,d,a⟩:=aP.1 b;unfold jH;rw[d];show cond false none (cond (Nat.beq 1 ti.size) ((fE h id off [zI v]).map λh'=>OR.val iw h') none)=_;have a:ti.size=1:=a;rw[a,c];rfl
theorem CQ(b:(E.tt.get t).map (·.size)=some 1)(c:v.isAny=false)(d:v.cells=[v])(e:fE h id off [v]=some h'):jH E h t (zP id off) v=some (.val iw h'):=by
 obtain⟨ti,f,a⟩:=aP.1 b;unfold jH;rw[f];show cond v.isAny none (cond (Nat.beq v.cells.length ti.size) ((fE h id off v.cells).map λh'=>OR.val iw h') none)=_;have a:ti.size=1:=a;rw[a,c,d,e];rfl
open Go.Conc (G)
theorem jV.mono{P:Program}{E:Env}{old:Old}{g:FuncId}{args:List AV}{Q h:Old->AV->Prop}(A:jV P E old g args Q)(i:∀e v,Old.le old e->Q e v->h e v):jV P E old g args h:=λK w vs c f j S k=>
 (A K w vs c f j S k).mono λd g w ⟨m,n,v,u,a,b,p,l,q,r⟩=>⟨m,n,v,u,a,b,p,l,i _ _ l q,r⟩
end
section
variable{b i off:Nat}{t:TypeId}
theorem mF.at{old:Old}{b:Nat}:∀{cs:List AV} {l:List T} {o:Nat},mF old cs l->iI old b o (l.length*4)=some cs->∀{j:Nat} {t:T},l[j]? =some t->∃c,iI old b (o+j*4) 4=some c∧mF old c [t]
 |_,_,o,.nil,h,j,t,hj=>by cases hj
 |_,_,o,.cons (rel:=rel) (args:=args) (rule:=rule) (kids:=kids) (a:=a) (k:=k) (ks:=ks) (cs:=cs) (l:=l) h1 d g i,h,j,t,hj=>by
  rw[fB,nX,Nat.one_mul,Nat.add_comm (l.length*4) 4]at h;obtain⟨c1,c2,e,m,e1,e2⟩:=ug h;obtain⟨n,p⟩:=List.append_inj (s₁:=[AV.str rel,a,.int .i64 rule,k]) (t₁:=cs) (s₂:=c1) (t₂:=c2) e (by rw[m];rfl);subst n;subst p;cases j with
  |zero=>
   cases hj;exact⟨_,by rw[jl,Nat.add_zero];exact e1,.cons h1 d g .nil⟩
  |succ j=>
   obtain⟨c,k1,q⟩:=mF.at i e2 (j:=j) (by simpa using hj);exact⟨c,by rw[show o+(j+1)*4=o+4+j*4 by omega];exact k1,q⟩
def CJ(old:Old)(p:AV)(t:T):Prop:=∃b o cs,p= .ptr (OLD+b) o∧iI old b o 4=some cs∧mF old cs [t]
theorem CJ.mono{old a:Old}(h:Old.le old a){p:AV}{t:T}(H:CJ old p t):CJ a p t:=by
 obtain⟨b,o,cs,h1,c,d⟩:=H;exact⟨b,o,cs,h1,nI h c,d.mono h⟩
theorem CJ.low{old:Old}{p:AV}{t:T}(H:CJ old p t):AV.low 0 p=true:=by
 obtain⟨b,o,cs,rfl,_⟩:=H;show(Nat.blt (OLD+b) 0||Nat.ble OLD (OLD+b))=true;rw[bF (gY _ _),jX]
theorem mF.one{old:Old}{cs:List AV}{t:T}(h:mF old cs [t]):∃a d kc ks,cs=[.str t.rel,a,.int .i64 t.rule,.aO d t.kids.length kc]∧iJ old a t.args∧mF old ks t.kids∧((t.kids=[]∧d=none)∨∃e ok,d=some (e,ok)∧iI old e ok (t.kids.length*4)=some ks):=by
 cases h with
 |cons h1 i g j=>
  cases j;rcases i with⟨b,o,c,rfl,k⟩|⟨rfl,h0,_⟩
  .exact⟨_,some (b,o),c,_,rfl,h1,g,.inr ⟨b,o,rfl,k⟩⟩
  .have:=bM.1 h0
   subst this;exact⟨_,none,0,_,rfl,h1,g,.inl ⟨rfl,rfl⟩⟩
theorem pK{old:Old}{b o n:Nat}{r:List AV}(h:iI old b o n=some r){j:Nat}{a:AV}(hj:r[j]? =some a):old b (o+j)=some a:=(Dn n o h).2 j a hj
theorem mV{E:Env}{h:AH}{t:TypeId}(c:(E.tt.get t).map (·.isAgg)=some false){id off:Nat}(b:Nat.ble OLD id=false){vs:List AV}{el:TypeId}{g z:Bool}(d:h.obj id= .cells vs el g z){a:AV}(e:vs[off]? =some a):loadT E h t id off=some a:=by
 obtain⟨ti,i,j⟩:=aP.1 c;unfold loadT;rw[i];show cond ti.isAgg _ (cond (Nat.ble OLD id) _ (match h.obj id with | .cells vs _ _ _=>vs[off]? |_=>none))=_;rw[j,b,d];exact e
theorem kT{E:Env}{h:AH}(c:(E.tt.get t).map (·.isAgg)=some false){a:AV}(d:E.old b off=some a):loadT E h t (OLD+b) off=some a:=by
 obtain⟨ti,e,g⟩:=aP.1 c;exact MJ e g d
mutual
theorem AV.Bh{ρ:Nat->Nat}(d:∀i,OLD<=i->ρ i=i):∀{a:AV},AV.low 0 a=true->a.ren ρ=a
 | .ptr i o,h=>by
   have h:(Nat.blt i 0||Nat.ble OLD i)=true:=h;rw[show Nat.blt i 0=false by cases e:Nat.blt i 0 with |false=>rfl|true=>rw[dB]at e;omega]at h;show AV.ptr (ρ i) o=_;rw[d i (aJ h)]
 | .sl i o l c,h=>by
   have h:(Nat.blt i 0||Nat.ble OLD i)=true:=h;rw[show Nat.blt i 0=false by cases e:Nat.blt i 0 with |false=>rfl|true=>rw[dB]at e;omega]at h;show AV.sl (ρ i) o l c=_;rw[d i (aJ h)]
 | .map i,h=>by
   have h:(Nat.blt i 0||Nat.ble OLD i)=true:=h;rw[show Nat.blt i 0=false by cases e:Nat.blt i 0 with |false=>rfl|true=>rw[dB]at e;omega]at h;show AV.map (ρ i)=_;rw[d i (aJ h)]
 | .yield i,h=>by
   have h:(Nat.blt i 0||Nat.ble OLD i)=true:=h;rw[show Nat.blt i 0=false by cases e:Nat.blt i 0 with |false=>rfl|true=>rw[dB]at e;omega]at h;show AV.yield (ρ i)=_;rw[d i (aJ h)]
 | .fn f a b,h=>by
   have h:(AV.fG 0 a&&AV.fG 0 b)=true:=h;rw[aF]at h;show AV.fn f (AV.jM ρ a) (AV.jM ρ b)=_;rw[AV.kF d h.1,AV.kF d h.2]
 | .iface t v,h=>by
   show AV.iface t (v.ren ρ)=_;rw[AV.Bh d (a:=v) h]
 | .agg l,h=>by
   show AV.agg (AV.jM ρ l)=_;rw[AV.kF d (l:=l) h]
 | .gI l,h=>by
   show AV.gI (AV.jM ρ l)=_;rw[AV.kF d (l:=l) h]
 | .any,_| .one,_| .bool _,_| .int _ _,_| .str _,_| .pO,_| .aQ,_| .emp,_| .aO _ _ _,_| .pF,_| .um,_| .uj,_=>rfl
theorem AV.kF{ρ:Nat->Nat}(b:∀i,OLD<=i->ρ i=i):∀{l:List AV},AV.fG 0 l=true->AV.jM ρ l=l
 |[],_=>rfl
 |a::l,h=>by
  have h:(AV.low 0 a&&AV.fG 0 l)=true:=h;rw[aF]at h;show a.ren ρ::AV.jM ρ l=_;rw[AV.Bh b h.1,AV.kF b h.2]
end
theorem rY{k:Nat}(h:OLD<=i):AQ k i=i:=by
 cases i with
 |zero=>exact aX h (by decide)
 |succ i=>rfl
section
variable{P:Program}{E:Env}{Z:Old}{f f':AF}{h:AH}{Q:Old->AV->Prop}
theorem fU.only{k:Nat}{vs:List AV}{el:TypeId}{g z:Bool}(B:fU P E Z f' ⟨zL (.cells vs el g z),1,0⟩ Q)(b:h.df=0)(e:f=f'.ren (AQ k))(a:f'.low 1)(c:AV.fG 0 vs=true)(d:h.tr.get k=some (.cells vs el g z)):fU P E Z f h Q:=by
 refine fU.ren (ρ:=AQ k) B b.symm e a (by show(true&&AV.fG 1 vs&&true)=true;rw[AV.qI c];rfl) (λi j hi hj _=>by have hi:i<1:=hi;have hj:j<1:=hj;omega) (λi o e _=>?_) (λi hi=>rY hi);obtain⟨rfl,rfl⟩:=rV e;exact⟨jm,by
  show h.tr.get k=some (.cells (AV.jM (AQ k) vs) el g z);rw[AV.kF (λi hi=>rY hi) c];exact d⟩
end
end
theorem Cc{E:Env}{h:AH}{ts tx e:TypeId}{sz:Nat}(b:Gl E ts tx=some (e,sz)){id len id2 off2:Nat}{cc:Option Nat}{vs cs:List AV}(d:jA E h id 0 (len*sz)=some vs)(g:len<=134217728)(f:jA E h id2 off2 (1*sz)=some cs):
 gX E h .append [.sl id 0 len (some len),.sl id2 off2 1 cc] [ts,tx]=some (.val (.sl h.nx 0 (len+1) none) (h.new (.cells (vs++cs) e true false))):=by
 show(l7 E h ts tx (.sl id 0 len (some len)) (.sl id2 off2 1 cc)).map _=_;rw[oD b (n:=1) (c:=cs) (by show(jA E h id2 off2 (1*sz)).map (λc=>(1,c))=_;rw[f];rfl) (by omega)];unfold MS;simp only;rw[show Nat.ble (len+1) len=false from by
  cases a:Nat.ble (len+1) len with
  |false=>rfl
  |true=>have:=aJ a;omega]
 simp only[bH];rw[show Nat.blt 268435456 (len+len)=false from by
  cases a:Nat.blt 268435456 (len+len)with
  |false=>rfl
  |true=>rw[dB]at a;omega]
 simp only[bH];rw[d];rfl
theorem GU(l:List AV):takeN l 0 l.length=some l:=by
 unfold takeN;simp only[gB,List.take_length,Nat.beq_refl,bG]
def CG(a:Option Nat)(g:Bool)(m:Nat):Prop:=(a=none∧g=true)∨(a=some m∧g=false)
theorem abx{E:Env}{ts e:TypeId}(b:Gl E ts ts=some (e,1)){ps:List AV}{p:AV}{m:Nat}{c:Option Nat}{g:Bool}(hr:CG c g m)(d:ps.length=m)(f:m<=134217728)(hp:vO [p]=true):
 ∃a,gX E ⟨zN (zL (.cells [p] e false false)) (.cells ps e g false) .e,2,0⟩ .append [.sl 0 0 m c,.sl 1 0 1 (some 1)] [ts,ts]=some (.val (.sl 2 0 (m+1) none) a)∧a.tr.get 2=some (.cells (ps++[p]) e true false)∧a.nx=3∧a.df=0:=by
 rcases hr with⟨rfl,rfl⟩|⟨rfl,rfl⟩
 .exact⟨_,Aw b (id:=0) (id2:=1) (off2:=0) (cc:=some 1) rfl (by omega) (by omega) rfl hp rfl,rfl,rfl,rfl⟩
 .refine⟨_,Cc b (id:=0) (id2:=1) (off2:=0) (cc:=some 1) (vs:=ps) (cs:=[p]) ?_ (by omega) rfl,rfl,rfl,rfl⟩
  show takeN ps 0 (m*1)=_;rw[bJ,← d];exact GU ps
section
variable{Z:Type}{Y:Z->Z->Int}
theorem Srt.get(T:TO Y):∀{l:List Z} {i j:Nat} {a b:Z},Srt Y l->i<=j->l[i]? =some a->l[j]? =some b->Y a b<=0:=by
 intro l i j a b h c d e;obtain⟨hi,rfl⟩:=aA.1 d;obtain⟨hj,rfl⟩:=aA.1 e;rcases Nat.lt_or_eq_of_le c with g|rfl
 .exact(List.pairwise_iff_getElem.1 h) i j hi hj g
 .rw[T.refl];exact Int.le_refl _
theorem af0{i j:Nat}(hi:i<=1073741824)(hj:j<=1073741824):IntKind.i64.wrap ((IntKind.u64.wrap (IntKind.i64.wrap ((i:Int)+j))).fdiv 2)=(((i+j) / 2:Nat):Int):=by
 rw[lT (z:=(i:Int)+j) (by omega) (by omega)];have:IntKind.u64.wrap ((i:Int)+j)=((i+j:Nat):Int):=by
  unfold IntKind.wrap;simp[IntKind.signed,IntKind.bits];omega
 rw[this,Int.fdiv_eq_ediv_of_nonneg _ (by omega)];rw[lT (by omega) (by omega)];omega
theorem bsearch{P:Program}{E:Env}{St:Nat->Nat->AF}{hp:AH}(q:Nat->Bool)(lo hi:Nat)
 (st:∀i j,lo<=i->i<j->j<=hi->q ((i+j) / 2)=true->DoesS P E (St i j) hp (St ((i+j) / 2+1) j) hp)
 (sf:∀i j,lo<=i->i<j->j<=hi->q ((i+j) / 2)=false->DoesS P E (St i j) hp (St i ((i+j) / 2)) hp)
 (mono:∀x y,lo<=x->x<=y->y<hi->q y=true->q x=true):∀(d i j:Nat),j - i<=d->lo<=i->i<=j->j<=hi->(∀x,lo<=x->x<i->q x=true)->(∀x,j<=x->x<hi->q x=false)->
  ∃k,i<=k∧k<=j∧(∀x,lo<=x->x<k->q x=true)∧(∀x,k<=x->x<hi->q x=false)∧DoesS P E (St i j) hp (St k k) hp
 |d,i,j,s,h1,p,b,m,n=>by
  rcases Nat.lt_or_eq_of_le p with g|rfl
  .match d with
   |0=>omega
   |d+1=>
    cases e:q ((i+j) / 2)
    .obtain⟨k,k1,o,c,f,h⟩:=bsearch q lo hi st sf mono d i ((i+j) / 2) (by omega) h1 (by omega) (by omega) m (λx l a=>by
      cases r:q x
      .rfl
      .rw[mono _ x (by omega) l a r]at e;cases e)
     exact⟨k,k1,by omega,c,f,DoesS.trans (sf i j h1 g b e) h⟩
    .obtain⟨k,k1,o,c,f,h⟩:=bsearch q lo hi st sf mono d ((i+j) / 2+1) j (by omega) (by omega) (by omega) b (λx l a=>mono x _ l (by omega) (by omega) e) n
     exact⟨k,by omega,o,c,f,DoesS.trans (st i j h1 g b e) h⟩
  .exact⟨i,aj _,aj _,m,n,DoesS.refl _ _⟩
end
section
variable{Z:Type}{Y:Z->Z->Int}
def ddq(Y:Z->Z->Int):Z->List Z->List Z
 |_,[]=>[]
 |p,x::r=>bif Y x p==0 then ddq Y x r else x::ddq Y x r
def dd(Y:Z->Z->Int):List Z->List Z
 |[]=>[]
 |x::r=>x::ddq Y x r
def Sst(Y:Z->Z->Int)(l:List Z):Prop:=l.Pairwise λa b=>Y a b<0
end
abbrev uq(a b:Int)(c:List UInt8):AV:=(.agg [zI a,zI b,.str c])
abbrev kR(a:List UInt8)(b:Option (Nat×Nat))(c d:Nat)(e:Int)(f:Option (Nat×Nat))(g h:Nat):AV:=(.agg [.str a,.aO b c d,zI e,.aO f g h])
abbrev l9(a:List UInt8)(b:Option (Nat×Nat))(c d:Nat):AV:=(.agg [.str a,.aO b c d])
abbrev Zk(a:Nat)(b:Int):AV:=(.agg [zP 1 a,zI b])
abbrev UR(a:List UInt8):AV:=(.agg [.str a,.aQ])
abbrev Ya6(a:Nat)(b:Option Nat):AV:=(.gI [.sl 0 0 a b,zP 1 0])
abbrev Ya7(a b c:Nat):AV:=(.gI [.aO (some (a,0)) b c,.bool true])
abbrev Ya8:AV:=(.agg [.str [],.aQ,zI 0,.aQ])
abbrev uY(a b:Int)(c:List UInt8):AO:=(.cells [zI a,zI b,.str c] 101 false false)
abbrev iV(a:Int):AO:=(.cells [zI a] 3 false false)
abbrev ji(a:Nat)(b:Int):AO:=(.cells [zP 1 a,zI b] 140 false false)
abbrev lS(a:List AV):AO:=(.cells a 27 false false)
abbrev dQ(a:List UInt8)(b:Option (Nat×Nat))(c d:Nat)(e:Int)(f:Option (Nat×Nat))(g h:Nat):AO:=(.cells [.str a,.aO b c d,zI e,.aO f g h] 65 false false)
abbrev xJ(a:List AV)(b:Bool):AO:=(.cells a 101 b false)
abbrev adz:AO:=(.cells [.pO,zI 0] 140 false false)
abbrev uZ:AO:=(.cells [.str [],.aQ,zI 0,.aQ] 27 false false)
abbrev eF(a:List UInt8)(b:Option (Nat×Nat))(c d:Nat)(e:Int)(f:Option (Nat×Nat))(g h:Nat):AO:=(.cells [.str a,.aO b c d,zI e,.aO f g h] 27 false false)
abbrev rD(a:List AV):AO:=(.cells a 3 false false)
abbrev Ir:AO:=(.cells [.str [],.aQ] 24 false false)
abbrev UA(a:List UInt8)(b c d e:Nat):AO:=(.cells [.str a,.aO (some (b,c)) d e] 24 false false)
abbrev abK(a:List UInt8):AO:=(.cells [.str a,.aO none 0 0] 24 false false)
abbrev MU(a:List AV):AO:=(.cells a 101 true false)
abbrev Y9:AO:=(.cells [] 101 false false)
abbrev LQ(a:AV)(b:List AV):AO:=(.cells (a::b) 3 true false)
abbrev rC(a:List AV):AO:=(.cells a 3 true false)
abbrev sQ(a:List UInt8)(b:Option (Nat×Nat))(c d:Nat)(e:Int)(f g h i:Nat):AO:=(.cells [.str a,.aO b c d,zI e,.aO (some (f,g)) h i] 27 false false)
abbrev AZ(a:List AV):AO:=(.cells a 65 true false)
abbrev P8(a:Nat):AO:=(.cells [.sl 1 0 a none,.sl 2 0 a none] 78 false false)
abbrev ahg(a:Nat):AO:=(.cells [.sl 1 0 a none,.sl 2 0 a none] 78 false false)
abbrev ae5(a:Nat):AO:=(.cells [.sl 5 0 (a+1) none,.sl 2 0 a none] 78 false false)
abbrev VW(a:Nat):AO:=(.cells [zI (↑a:Int)] 3 false false)
abbrev aiz(a:Nat):AO:=(.cells [.sl 5 0 (a+1) none,.sl 7 0 (a+1) none] 78 false false)
abbrev ahf(a:Nat):AO:=(.cells [.sl 5 0 (a+1) none,.sl 7 0 (a+1) none] 78 false false)
abbrev Jk(a:Int)(b:Nat)(c:List AV):AO:=(.cells ((zI a)::((zI (↑b:Int))::c)) 3 true false)
abbrev qU(a:List UInt8)(b:Option (Nat×Nat))(c d:Nat)(e:Int)(f g h i:Nat):AO:=(.cells [.str a,.aO b c d,zI e,.aO (some (f,g)) h i] 65 false false)
abbrev zF(a:Int)(b:Nat):AO:=(.cells [zI a,zI (↑b:Int)] 3 false false)
abbrev qR(a:List UInt8)(b:Option (Nat×Nat))(c d:Nat)(e:Int)(f:Option (Nat×Nat))(g:Nat):AO:=(.cells [.str a,.aO b c d,zI e,.aO f 0 g] 65 false false)
abbrev DV(a:Int):AO:=(.cells [zI a,zI 0] 3 false false)
abbrev nC(a:List UInt8)(b:Option (Nat×Nat))(c d:Nat):AO:=(.cells [.str a,.aO b c d] 24 false false)
abbrev abJ(a b:Nat):AO:=(.cells [.ptr (OLD+a) b,.aQ] 59 false false)
abbrev Uz(a b:Nat):AO:=(.cells [zP (1152921504606846976+a) b,.aQ] 59 false false)
abbrev abI(a b c d:Nat)(e:Option Nat):AO:=(.cells [.ptr (OLD+a) b,.sl c 0 d e] 59 false false)
abbrev Uy(a b c d:Nat)(e:Option Nat):AO:=(.cells [zP (1152921504606846976+a) b,.sl c 0 d e] 59 false false)
abbrev VU:AO:=(.cells [.ptr 2 0] 57 false false)
abbrev ady:AO:=(.cells [zP 2 0] 57 false false)
abbrev Y8(a b c:Nat):AO:=(.cells [.ptr (OLD+a) (b+c*4),.aQ] 59 false false)
abbrev Ux:AO:=(.cells [.aQ] 31 false false)
abbrev P7(a:Nat)(b:Option Nat):AO:=(.cells [.sl 2 0 a b] 31 false false)
abbrev abH(a:AV):AO:=(.cells [a,.aQ] 59 false false)
abbrev adx(a:Int)(b:Nat):AO:=(.cells [zI a,zI ((↑b:Int))] 3 false false)
noncomputable abbrev aiy:List AI:=[.code (iQ f137 [1,0,1,0,0]),.inLoop (iQ f137 [1,0,1,0,0]),.inBlock 0,.code (iQ f137 [1,1])]
noncomputable abbrev aix:List AI:=[.code (iQ f28 [1,1,1,0,0,0]),.inLoop (iQ f28 [1,1,1,0,0,0]),.inBlock 0,.code (iQ f28 [1,1,1,1])]
noncomputable abbrev ag8:List AI:=[.code (iQ f28 [1,1,1,0,0,0,1,0,1,1,1,1,1,1,0,0]),.inLoop (iQ f28 [1,1,1,0,0,0,1,0,1,1,1,1,1,1,0,0]),.inBlock 2,.inBlock 1,.inLoop (iQ f28 [1,1,1,0,0,0]),.inBlock 0,.code (iQ f28 [1,1,1,1])]
noncomputable abbrev aiw:List AI:=[.code (iQ f27 [1,1,0,1,0,0]),.inLoop (iQ f27 [1,1,0,1,0,0]),.inBlock 0,.code (iQ f27 [1,1,1])]
noncomputable abbrev aiv:List AI:=[.code (iQ f27 [1,1,0,1,0,0,1,1,0,0,1,1,1,0,0]),.inLoop (iQ f27 [1,1,0,1,0,0,1,1,0,0,1,1,1,0,0]),.inBlock 2,.inBlock 1,.code (iQ f27 [1,1,0,1,0,0,1,1,1]),.inLoop (iQ f27 [1,1,0,1,0,0]),.inBlock 0,.code (iQ f27 [1,1,1])]
noncomputable abbrev aiu:List AI:=[.code (iQ f7 [1,0]),.code (iQ f7 [1,1])]
noncomputable abbrev ait:List AI:=[.code (iQ f6 [1,0,0]),.code (iQ f6 [1,0,1]),.code (iQ f6 [1,1])]
noncomputable abbrev ais:List AI:=[.code (iQ f18 [1,1,0,1,0,0]),.inLoop (iQ f18 [1,1,0,1,0,0]),.inBlock 0,.code (iQ f18 [1,1,1])]
noncomputable abbrev air:List AI:=[.code (iQ f18 [1,1,0,1,0,0,1,0,0,1,1,0,0]),.inLoop (iQ f18 [1,1,0,1,0,0,1,0,0,1,1,0,0]),.inBlock 2,.inBlock 1,.code (iQ f18 [1,1,0,1,0,0,1,1]),.inLoop (iQ f18 [1,1,0,1,0,0]),.inBlock 0,.code (iQ f18 [1,1,1])]
noncomputable abbrev aiq:List AI:=[.code (iQ f54 [1,0,1,0,0]),.inLoop (iQ f54 [1,0,1,0,0]),.inBlock 0,.code (iQ f54 [1,1])]
noncomputable abbrev aip:List AI:=[.code (iQ f22 [1,1,1,0,0,0]),.inLoop (iQ f22 [1,1,1,0,0,0]),.inBlock 0,.code (iQ f22 [1,1,1,1])]
noncomputable abbrev ag7:List AI:=[.code (iQ f5 [1,1,1,0,1,0,0]),.inLoop (iQ f5 [1,1,1,0,1,0,0]),.inBlock 0,.code (iQ f5 [1,1,1,1])]
noncomputable abbrev aio:List AI:=[.code (iQ f29 [1,1,1,1,0,1,0,0]),.inLoop (iQ f29 [1,1,1,1,0,1,0,0]),.inBlock 0,.code (iQ f29 [1,1,1,1,1])]
noncomputable abbrev ain:List AI:=[.code (iQ f30 [1,1,1,0,0,0]),.inLoop (iQ f30 [1,1,1,0,0,0]),.inBlock 0,.code (iQ f30 [1,1,1,1])]
noncomputable abbrev ail:List AI:=[.code (iQ f30 [1,1,1,1,1,1,1,0,1,0,0]),.inLoop (iQ f30 [1,1,1,1,1,1,1,0,1,0,0]),.inBlock 2,.code (iQ f30 [1,1,1,1,1,1,1,1])]
noncomputable abbrev aik:List AI:=[.code (iQ f60 [1,1,1,1,1,1,1,0,1,0,0]),.inLoop (iQ f60 [1,1,1,1,1,1,1,0,1,0,0]),.inBlock 0,.code (iQ f60 [1,1,1,1,1,1,1,1])]
noncomputable abbrev aij:List AI:=[.code (iQ f167 [1,0,1,0,0]),.inLoop (iQ f167 [1,0,1,0,0]),.inBlock 0,.code (iQ f167 [1,1])]
noncomputable abbrev aii:List AI:=[.code (iQ f3 [1,1,1,1,1,0]),.code (iQ f3 [1,1,1,1,1,1])]
noncomputable abbrev aif:List AI:=[.code (iQ f3 [1,1,1,1,1,1,1,1,0]),.code (iQ f3 [1,1,1,1,1,1,1,1,1])]
noncomputable abbrev ag6:List AI:=[.code (iQ f6 [1,1,1,1,1,0,0,0]),.inLoop (iQ f6 [1,1,1,1,1,0,0,0]),.inBlock 0,.code (iQ f6 [1,1,1,1,1,1])]
noncomputable abbrev ag5:List AI:=[.code (iQ f6 [1,1,1,1,1,0,0,0,1,0,1,1,1,1]),.inBlock 1,.inLoop (iQ f6 [1,1,1,1,1,0,0,0]),.inBlock 0,.code (iQ f6 [1,1,1,1,1,1])]
noncomputable abbrev ag4:List AI:=[.code (iQ f6 [1,1,1,1,1,0,0,0,1,0,1,1,1,1,1,1]),.inBlock 1,.inLoop (iQ f6 [1,1,1,1,1,0,0,0]),.inBlock 0,.code (iQ f6 [1,1,1,1,1,1])]
noncomputable abbrev aie:List AI:=[.code (iQ f26 [1,1,0,1,0,0]),.inLoop (iQ f26 [1,1,0,1,0,0]),.inBlock 0,.code (iQ f26 [1,1,1])]
noncomputable abbrev aic:List AI:=[.code (iQ f110 [1,1,0,1,0,0]),.inLoop (iQ f110 [1,1,0,1,0,0]),.inBlock 0,.code (iQ f110 [1,1,1])]
noncomputable abbrev aib:List AI:=[.code (iQ f168 [1,0,1,0,0]),.inLoop (iQ f168 [1,0,1,0,0]),.inBlock 0,.code (iQ f168 [1,1])]
noncomputable abbrev aia:List AI:=[.code (iQ f11 [1,1,0,1,0,0]),.inLoop (iQ f11 [1,1,0,1,0,0]),.inBlock 0,.code (iQ f11 [1,1,1])]
noncomputable abbrev jK(a b:AO):AH:=⟨zN (zL a) b .e,2,0⟩
noncomputable abbrev je(a:AO):AH:=⟨zL a,1,0⟩
noncomputable abbrev xG(a b c d f:AO):AH:=⟨zN (zN (zL a) b .e) c (zN (zL d) f .e),5,0⟩
noncomputable abbrev AY(a b c d f g:AO):AH:=⟨zN (zN (zL a) b (zL c)) d (zN (zL f) g .e),6,0⟩
noncomputable abbrev dJ(a b c:AO):AH:=⟨zN (zL a) b (zL c),3,0⟩
noncomputable abbrev lD(a b c d:AO):AH:=⟨zN (zN (zL a) b .e) c (zL d),4,0⟩
noncomputable abbrev Jj(a b c d e f g:AO):AH:=⟨zN (zN (zL a) b (zL c)) d (zN (zL e) f (zL g)),7,0⟩
noncomputable abbrev abC(a b c:AO):AH:=⟨zN (zN (zL a) b .e) c .e,4,0⟩
noncomputable abbrev adv(a b c d f g:AO):AH:=⟨zN (zN (zN (zL a) b .e) .dead (zL c)) d (zN (zL f) .dead (zL g)),8,0⟩
noncomputable abbrev abB(a:AO):AH:=⟨zO .e (zO .e (zO .e (zO (zO (zO .e (zO (zO .e (zO .e (zO .e (zO (zO (zL a) .e) .e)))) .e)) .e) .e))),5031,0⟩
noncomputable abbrev ag9(a b:AO):AH:=⟨zO (zO (zO (zO .e (zO (zO .e (zO (zO .e (zO .e (zO .e (zO (zO (zL a) .e) .e)))) .e)) .e)) .e) .e) (zO .e (zO .e (zO (zO (zO .e (zO (zO .e (zO .e (zO .e (zO (zO (zL b) .e) .e)))) .e)) .e) .e))),5032,0⟩
noncomputable abbrev vI(a:AO):AH:=⟨zO (zO (zO (zO .e (zO (zO .e (zO (zO .e (zO .e (zO .e (zO (zO (zL a) .e) .e)))) .e)) .e)) .e) .e) .e,5032,0⟩
noncomputable abbrev Y6(a:AO):AH:=⟨zN (zL a) Ux .e,3,0⟩
noncomputable abbrev Iq(a b:AO):AH:=⟨zO (zO (zO (zO .e (zO (zO .e (zO (zO .e (zO .e (zO .e (zO (zO (zL a) .e) .e)))) .e)) .e)) .e) .e) (zO (zO (zO .e (zO (zO .e (zO (zO .e (zO .e (zO .e (zO (zO (zL b) .e) .e)))) .e)) .e)) .e) .e),5033,0⟩
noncomputable abbrev adu(a b:AO):AH:=⟨zO (zO (zO (zO .e (zO (zO .e (zO (zO .e (zO .e (zO .e (zO (zO (zL a) .e) .e)))) .e)) .e)) .e) (zO (zO .e (zO (zO .e (zO (zO .e (zO .e (zO .e (zO (zO (zL uZ) .e) .e)))) .e)) .e)) .e)) (zO (zO (zO .e (zO (zO .e (zO (zO .e (zO .e (zO .e (zO (zO (zL b) .e) .e)))) .e)) .e)) .e) .e),5034,0⟩
noncomputable abbrev Uo(a b c d f:AV):AF:=⟨⟨137,false,none,39⟩,zN (zN (zO .e (zL a)) b (zO .e (zL c))) d (zN (zO .e (zL f)) (.fn 138 [] []) .e),aiy,[],false⟩
noncomputable abbrev Um(a b c d:AV):AF:=⟨⟨28,false,none,70⟩,zN (zO .e (zL a)) b (zO (zL c) (zL d)),aix,[],false⟩
noncomputable abbrev Y7(a b c d f g h i:AV):AF:=⟨⟨28,false,none,70⟩,zN (zO (zO (zL a) (zO (zO .e (zL b)) .e)) (zN (zO (zO .e (zL c)) .e) d .e)) f (zO (zL g) (zN (zO (zO .e (zL h)) .e) i .e)),ag8,[],false⟩
noncomputable abbrev ahb(a b c d f g h:AV):AF:=⟨⟨28,false,none,70⟩,zN (zO (zO (zL (zP 2 0)) (zO (zO .e (zL a)) .e)) (zN (zO (zO .e (zL b)) .e) c .e)) d (zO (zN .e f .e) (zN (zO (zO .e (zL g)) .e) h .e)),ag8,[],false⟩
noncomputable abbrev abG(a b c d:AV):AF:=⟨⟨27,false,none,52⟩,zO (zO .e (zO .e (zL a))) (zO (zN .e b (zL c)) (zO .e (zL d))),aiw,[],false⟩
noncomputable abbrev VT(a b c d f g h i:AV):AF:=⟨⟨27,false,none,52⟩,zO (zO (zO (zO .e (zL a)) .e) (zN (zO .e (zL b)) c (zL d))) (zO (zN (zO .e (zL f)) g (zL h)) (zO .e (zL i))),aiv,[],false⟩
noncomputable abbrev adw(a:AV):AF:=⟨⟨7,false,none,13⟩,zO (zL a) (zL (zI 0)),aiu,[],false⟩
noncomputable abbrev aha(a:AV):AF:=⟨⟨16,false,none,67⟩,zO (zL a) (zL (zI 0)),[.code (iQ f16 [1,0]),.code (iQ f16 [1,1])],[],false⟩
noncomputable abbrev X3(a:AV):AF:=⟨⟨6,false,none,128⟩,zO (zL a) (zL .aQ),ait,[],false⟩
noncomputable abbrev Og(a b:AV):AF:=⟨⟨18,false,none,52⟩,zO (zO (zL (.bool false)) (zL a)) (zN (zL b) .aQ .e),ais,[],false⟩
noncomputable abbrev Uw(a b c d:AV):AF:=⟨⟨18,false,none,52⟩,zO (zO (zN .e (.bool false) (zO (zO (zL a) .e) .e)) (zL b)) (zN (zL c) .aQ (zO (zO (zO (zL d) .e) .e) .e)),air,[],false⟩
noncomputable abbrev Jc(a b c d f:AV):AF:=⟨⟨54,false,none,36⟩,zN (zN (zO .e (zL a)) b (zO (zL c) .e)) d (zO .e (zO (zL f) .e)),aiq,[],false⟩
noncomputable abbrev Uu(a b c d f:AV):AF:=⟨⟨22,false,none,49⟩,zN (zO .e (zO (zL a) .e)) b (zN (zN (zL c) (zP 0 0) .e) d (zO (zL f) .e)),aip,[],false⟩
noncomputable abbrev X0(a b c d f:AV):AF:=⟨⟨5,false,none,50⟩,zO (zN .e a (zL b)) (zN (zL c) d (zL f)),ag7,[],false⟩
noncomputable abbrev Ut(a b c d:AV):AF:=⟨⟨29,false,none,62⟩,zO (zO (zN (zL a) b .e) .e) (zN (zL c) d .e),aio,[],false⟩
noncomputable abbrev XZ(a b c d:AV):AF:=⟨⟨30,false,none,110⟩,zN (zO (zL a) (zL b)) c (zO .e (zL d)),ain,[],false⟩
noncomputable abbrev Us(a b c d:AV):AF:=⟨⟨30,false,none,110⟩,zN (zO .e (zN (zL a) b .e)) c (zO .e (zO (zL d) .e)),ail,[],false⟩
noncomputable abbrev lM(a b c:AV):AF:=⟨⟨60,false,none,67⟩,zO (zO (zO (zL a) .e) .e) (zO (zN (zL b) (zI 0) .e) (zL c)),aik,[],false⟩
noncomputable abbrev Jb(a b c:AV):AF:=⟨⟨167,false,none,37⟩,zN (zN .e a (zL b)) c .e,aij,[],false⟩
noncomputable abbrev XY(a:AV):AF:=⟨⟨3,false,none,72⟩,zO (zN (zL (.bool true)) a .e) (zL (.bool false)),[.code (iQ f3 [1,1])],[],false⟩
noncomputable abbrev XV:AF:=⟨⟨3,false,none,72⟩,zO (zO (zL (.bool true)) (zL (zP 5031 0))) .e,aii,[],false⟩
noncomputable abbrev XU(a b:AV):AF:=⟨⟨3,false,none,72⟩,zO (zO (zN (zL a) (.bool true) .e) (zL (zP 5031 0))) (zO .e (zL b)),aif,[],false⟩
noncomputable abbrev Cj(a b c:AV):AF:=⟨⟨6,false,none,128⟩,zO (zO (zO (zL a) .e) (zL b)) (zN .e .aQ (zL c)),ag6,[],false⟩
noncomputable abbrev Ci(a b c d:AV):AF:=⟨⟨6,false,none,128⟩,zO (zO (zO (zL a) .e) (zL b)) (zN .e .aQ (zN (zL c) d .e)),ag5,[],false⟩
noncomputable abbrev Oe(a b c d:AV):AF:=⟨⟨6,false,none,128⟩,zO (zO (zO (zL a) (zL b)) (zL c)) (zN .e .aQ (zL d)),ag4,[],false⟩
noncomputable abbrev Oc(a b:AV):AF:=⟨⟨26,false,none,27⟩,zO (zN .e a (zL b)) (zL (zP 0 0)),aie,[],false⟩
noncomputable abbrev Ur(a b c:AV):AF:=⟨⟨110,false,none,26⟩,zN (zN .e a (zL b)) c .e,aic,[],false⟩
noncomputable abbrev LP(a b c:AV):AF:=⟨⟨168,false,none,36⟩,zN (zN .e a (zL b)) c .e,aib,[],false⟩
noncomputable abbrev Oa(a b c:AV):AF:=⟨⟨11,false,none,23⟩,zN (zO (zL a) .e) b (zO (zL c) .e),aia,[],false⟩
noncomputable abbrev ahe(a b c:AV):AF:=⟨⟨3,false,none,72⟩,zO (zO (zN (zN (zO (zL .aQ) .e) (zI 65537) (zL (zI 65537))) (.bool true) (zO (zL .aQ) (zL (zI 65537)))) (zN (zO (zO (zL (.bool true)) .e) (zL (.bool true))) (zP 5031 0) (zO (zL (zI 65537)) (zL (.bool true))))) (zN (zO (zO (zO (zL (zI 0)) .e) (zL (.bool true))) (zO (zL a) (zL (.bool true)))) (.bool true) (zN (zO (zN (zL (.bool true)) b .e) (zL (.bool true))) .aQ (zO (zL c) (zL (.bool true))))),[.code (iQ f3 [1,1,1,1,0,1,0,1]),.code (iQ f3 [1,1,1,1,1,1,1,1])],[],true⟩
noncomputable abbrev ahd(f g h i j k l m n o a b c d:AV):AF:=⟨⟨3,false,none,72⟩,zO (zO (zN (zN (zO .e (zL (zI 0))) f (zO (zN (zL (.bool true)) g .e) (zL (.bool false)))) (.bool true) (zO (zO (zL h) (zL i)) (zO (zL (zI 0)) .e))) (zN (zN (zO .e (zL (.bool false))) (zI 0) (zO (zL j) (zL (.bool false)))) (zP 5031 0) (zO (zO (zL k) (zL (.bool true))) (zO (zL (.bool false)) .e)))) (zN (zO (zN (zO .e (zL (.bool false))) (zP 5032 0) (zO (zL l) (zL m))) (zO (zO (zL n) (zL o)) (zO (zL (.bool true)) .e))) (.bool true) (zN (zO (zO .e (zL (.bool false))) (zO (zL a) .e)) b (zO (zO (zN (zL c) d .e) (zL (.bool false))) (zO (zL (.bool false)) .e)))),[.code (iQ f3 [1,1,1,1,0,1,0,1])],[],true⟩
noncomputable abbrev ahc(l m n o p q r s t u a b c d f g h i j k:AV):AF:=⟨⟨3,false,none,72⟩,zO (zO (zN (zN (zO (zO (zL l) .e) (zL (zI 0))) m (zO (zN (zL (.bool true)) n .e) (zL (.bool false)))) (.bool true) (zN (zO (zN (zL (zI 151)) o .e) (zL p)) (zI 151) (zO (zL (zI 0)) (zL q)))) (zN (zN (zO (zO (zL (.gI [Ya8,zI 151])) .e) (zL (.bool false))) (zI 0) (zO (zL r) (zL (.bool true)))) (zP 5031 0) (zO (zO (zN (zL (.bool false)) s .e) (zL (.bool true))) (zO (zL (.bool false)) (zL t))))) (zN (zO (zN (zO (zO (zL u) .e) (zL (.bool false))) (zP 5032 0) (zO (zL a) (zL b))) (zO (zO (zN (zL (zI 151)) c .e) (zL d)) (zO (zL (.bool true)) (zL f)))) (.bool true) (zN (zN (zO (zO (zL Ya8) .e) (zL (.bool false))) (zP 5033 0) (zO (zL g) (zL (.gI [Ya8,zI 151])))) h (zO (zO (zN (zL i) j .e) (zL (.bool false))) (zO (zL (.bool false)) (zL k))))),[.code (iQ f3 [1,1,1,1,0,1,0,1])],[],true⟩
noncomputable abbrev gZ(a b:Int)(c:List UInt8)(d e:Int)(f:List UInt8):AH:=(jK (uY a b c) (uY d e f))
noncomputable abbrev rO(d:Nat)(e:Int)(f g:List AV)(h:Bool)(i:List UInt8)(j:Option (Nat×Nat))(k l:Nat)(m:Int)(a:Option (Nat×Nat))(b c:Nat):AH:=(xG (ji d e) (lS f) (.cells g 140 h false) (dQ i j k l m a b c) (ji d e))
noncomputable abbrev vS(f:Nat)(g:Int)(h i:List AV)(j:Bool)(k:List AV)(l:Bool)(m:List UInt8)(n:Option (Nat×Nat))(o a:Nat)(b:Int)(c:Option (Nat×Nat))(d e:Nat):AH:=(AY (ji f g) (lS h) (xJ i j) (.cells k 140 l false) (dQ m n o a b c d e) (ji f g))
noncomputable abbrev Ja(a b:List AV)(c:Bool):AH:=(dJ (lS a) (.cells b 140 c false) adz)
noncomputable abbrev I9(a:Nat)(b:Int)(c d:List AV)(e:Bool):AH:=(lD (ji a b) (lS c) (.cells d 140 e false) adz)
noncomputable abbrev I8(a b:List AV)(c:Bool):AH:=(lD adz (lS a) (.cells b 140 c false) adz)
noncomputable abbrev xI(a:List AV)(b:Bool):AH:=(je (.cells a 55 b false))
noncomputable abbrev kM(a:List UInt8)(b:Option (Nat×Nat))(c d:Nat)(e:Int)(f:Option (Nat×Nat))(g h:Nat):AH:=(je (dQ a b c d e f g h))
noncomputable abbrev Ul(b:Int)(c d a e f:Nat)(g:Int):AF:=(Uu (zI b) (.aO (some (c,d)) a e) (zI (↑a:Int)) (.fn 23 [] [.ptr (OLD+f) 0]) (zI g))
noncomputable abbrev abE(a:Nat):AF:=(X0 (.ptr 0 0) (.ptr 3 0) (.ptr 2 0) (.ptr 1 0) (zI (↑a:Int)))
noncomputable abbrev abD:AH:=(je (.cells [.aQ,.aQ] 78 false false))
noncomputable abbrev xH(b:List UInt8)(c:Option (Nat×Nat))(d e:Nat)(f:Int)(g:Option (Nat×Nat))(h i:Nat)(j:List AV)(k:Nat)(a:List AV):AH:=(lD (dQ b c d e f g h i) (AZ j) (ahg k) (rC a))
noncomputable abbrev XT(a b:Int):AF:=(XZ (.ptr 3 0) (zI a) (.ptr 0 0) (zI b))
noncomputable abbrev D9(j:List AV)(b:List UInt8)(c:Option (Nat×Nat))(d e:Nat)(f:Int)(g:Option (Nat×Nat))(h i:Nat)(k:List AV)(a:Nat):AH:=(adv (rC j) (dQ b c d e f g h i) (AZ k) (aiz a) (dQ b c d e f g h i) (VW a))
noncomputable abbrev N9(j:List AV)(b:List UInt8)(c:Option (Nat×Nat))(d e:Nat)(f:Int)(g:Option (Nat×Nat))(h i:Nat)(k:List AV)(a:Nat):AH:=(adv (rC j) (dQ b c d e f g h i) (AZ k) (ahf a) (dQ b c d e f g h i) (VW a))
noncomputable abbrev kC(g:List UInt8)(h:Option (Nat×Nat))(i j:Nat)(k:Int)(l:Option (Nat×Nat))(m n:Nat)(o:List UInt8)(p:Option (Nat×Nat))(a b:Nat)(c:Int)(d:Option (Nat×Nat))(e f:Nat):AH:=(jK (dQ g h i j k l m n) (dQ o p a b c d e f))
noncomputable abbrev mO(m:List AV)(n:List UInt8)(o:Option (Nat×Nat))(p q:Nat)(k:Int)(r s l t:Nat)(c:List AV)(d:List UInt8)(e:Option (Nat×Nat))(f g:Nat)(a:Int)(h i b j:Nat):AH:=(AY (rC m) (qU n o p q k r s l t) (rC c) (qU d e f g a h i b j) (zF k l) (zF a b))
noncomputable abbrev mM(i:List AV)(j:List UInt8)(k:Option (Nat×Nat))(l m:Nat)(n:Int)(o:Option (Nat×Nat))(p:Nat)(q:List UInt8)(r:Option (Nat×Nat))(c d:Nat)(a:Int)(e f b g:Nat)(h:List AV):AH:=(xG (rC i) (qR j k l m n o p) (qU q r c d a e f b g) (rD h) (zF a b))
noncomputable abbrev mJ(i:Int)(j:Nat)(k:List UInt8)(l:Option (Nat×Nat))(m n o p q:Nat)(r:List UInt8)(a:Option (Nat×Nat))(b c:Nat)(d:Int)(e:Option (Nat×Nat))(f:Nat)(g h:List AV):AH:=(xG (zF i j) (qU k l m n i o p j q) (qR r a b c d e f) (rC g) (rD h))
noncomputable abbrev mH(g:List AV)(h:List UInt8)(i:Option (Nat×Nat))(j k:Nat)(l:Int)(m:Option (Nat×Nat))(n:Nat)(o:List UInt8)(p:Option (Nat×Nat))(a b:Nat)(c:Int)(d:Option (Nat×Nat))(e:Nat)(f:List AV):AH:=(lD (rD g) (qR h i j k l m n) (qR o p a b c d e) (rD f))
noncomputable abbrev nV(a:List UInt8)(b:Option (Nat×Nat))(c d:Nat)(e:List UInt8)(f:Option (Nat×Nat))(g h:Nat):AH:=(jK (nC a b c d) (nC e f g h))
noncomputable abbrev Gp(a b:Nat)(c:List AV)(d:Bool):AH:=(jK (abJ a b) (.cells c 57 d false))
noncomputable abbrev ny(a b:Nat)(c:List AV)(d:Bool):AH:=(jK (Uz a b) (.cells c 57 d false))
noncomputable abbrev Gn(a b c d:Nat)(e:Option Nat)(f:List AV)(g:Bool):AH:=(jK (abI a b c d e) (.cells f 57 g false))
noncomputable abbrev ni(a b c d:Nat)(e:Option Nat)(f:List AV)(g:Bool):AH:=(jK (Uy a b c d e) (.cells f 57 g false))
noncomputable abbrev mG(a:Option (Nat×Nat))(b c:Nat)(d:Option (Nat×Nat))(e f:Nat):List AV:=[.aO a b c,.aO d e f]
section
variable{P:Program}{f f':AF}{h h':AH}{obs:List Prop}
theorem Ah{E:Env}{t e:TypeId}{z:Nat}(f:E.d t=some (.slice e))(g:(E.tt.get e).map (·.size)=some z)(hp:E.peek=true){b o n c:Nat}{i:Int}(h0:0<=i)(h1:i<n):
 aZ E t (nP E (.aO (some (b,o)) n c)) (zI i)=some (.ptr (OLD+b) (o+i.toNat*z)):=by
 obtain⟨a,h,rfl⟩:=aP.1 g;show aZ E t (cond E.peek (cond (Nat.beq n 0) .emp (.sl (OLD+b) o n (some c))) .any) (zI i)=_;rw[hp,show Nat.beq n 0=false by cases n with |zero=>omega|succ n=>rfl];unfold aZ;rw[f];show(match E.tt.get e with |some a=>cond (decide (0<=i∧i<n)) (some (AV.ptr (OLD+b) (o+i.toNat*a.size))) none|none=>none)=_;rw[h];show cond (decide (0<=i∧i<n)) _ _=_;rw[aB ⟨h0,h1⟩];rfl
theorem Ju{E:Env}(F:Fits P E)(FF:eU P E)(l:List UK)(e:yu P E l f h=some (f',h',obs))(H:All obs):DoesS P E f h f' h':=path_ok F FF l f h e H
end
section
variable{n:Nat}
abbrev TT:Prop:=some true=some true
abbrev BT(b:Bool):Prop:=some (AV.bool b)=some (AV.bool true)
abbrev BF(b:Bool):Prop:=some (AV.bool b)=some (AV.bool false)
theorem zc{a b:Bool}(h:a=b):some (AV.bool a)=some (AV.bool b):=by rw[h]
abbrev IX(old:Old)(t b e n c:Nat)(i:Int)(z:Nat):Prop:=aZ (E.wo old) t (nP (E.wo old) (.aO (some (b,e)) n c)) (zI i)=some (zP (1152921504606846976+b) (e+i.toNat*z))
abbrev LD(old:Old)(h:AH)(t b o:Nat)(v:AV):Prop:=loadT (E.wo old) h t (1152921504606846976+b) o=some v
abbrev Qu(old:Old)(g:Nat)(a:List AV)(v:AV):Prop:=∀h:AH,Nat.ble h.nx OLD=true->h.df=0->DoesC Tryz.prog (E.wo old) g a h v h
abbrev zB(t:Nat)(vs:List AV):AH:=⟨(zL (.cells vs t true false)),1,0⟩
abbrev Lp(f:Func)(p q:List Nat)(n:Nat):List AI:=[.code (iQ f p),.inLoop (iQ f p),.inBlock n,.code (iQ f q)]
abbrev Fm(g nt:Nat)(t:Tr AV)(l:List AI):AF:=⟨⟨g,false,none,nt⟩,t,l,[],false⟩
theorem Qc{a b:Bool}(h:a=b):some (AV.bool a)=some (AV.bool b):=by rw[h]
theorem Zl(old:Old)(b o c:Nat){i:Int}(h0:0<=i)(h1:i<n):aZ (E.wo old) 22 (nP (E.wo old) (.aO (some (b,o)) n c)) (zI i)=some (zP (1152921504606846976+b) (o+i.toNat*3)):=Ah (e:=101) (by kernel_rfl) (by kernel_rfl) rfl h0 h1
theorem x56(old:Old)(b o c:Nat){i:Int}(h0:0<=i)(h1:i<n):aZ (E.wo old) 56 (nP (E.wo old) (.aO (some (b,o)) n c)) (zI i)=some (zP (1152921504606846976+b) (o+i.toNat*1)):=Ah (e:=3) (by kernel_rfl) (by kernel_rfl) rfl h0 h1
theorem y25(old:Old)(b:Nat)(c:Option Nat){j:Int}{x:Nat}(h0:j=(↑x:Int))(h1:x<n):aZ (E.wo old) 25 (nP (E.wo old) (.sl b 0 n c)) (zI j)=some (zP b (x*4)):=jk (e:=27) (by kernel_rfl) (by kernel_rfl) h0 h1
theorem y31(old:Old)(b:Nat)(c:Option Nat){j:Int}{x:Nat}(h0:j=(↑x:Int))(h1:x<n):aZ (E.wo old) 31 (nP (E.wo old) (.sl b 0 n c)) (zI j)=some (zP b (x*4)):=jk (e:=65) (by kernel_rfl) (by kernel_rfl) h0 h1
theorem y52(old:Old)(b:Nat)(c:Option Nat){j:Int}{x:Nat}(h0:j=(↑x:Int))(h1:x<n):aZ (E.wo old) 52 (nP (E.wo old) (.sl b 0 n c)) (zI j)=some (zP b (x*1)):=jk (e:=55) (by kernel_rfl) (by kernel_rfl) h0 h1
theorem wE(old:Old)(b:Nat)(c:Option Nat){j:Int}{x:Nat}(h0:j=(↑x:Int))(h1:x<n):aZ (E.wo old) 56 (nP (E.wo old) (.sl b 0 n c)) (zI j)=some (zP b (x*1)):=jk (e:=3) (by kernel_rfl) (by kernel_rfl) h0 h1
theorem y60(old:Old)(b:Nat)(c:Option Nat){j:Int}{x:Nat}(h0:j=(↑x:Int))(h1:x<n):aZ (E.wo old) 60 (nP (E.wo old) (.sl b 0 n c)) (zI j)=some (zP b (x*1)):=jk (e:=57) (by kernel_rfl) (by kernel_rfl) h0 h1
theorem aiB(old:Old)(b:Nat)(c:Option Nat){j:Int}{x:Nat}(h0:j=(↑x:Int))(h1:x<n):aZ (E.wo old) 141 (nP (E.wo old) (.sl b 0 n c)) (zI j)=some (zP b (x*2)):=jk (e:=140) (by kernel_rfl) (by kernel_rfl) h0 h1
end
def aK(a b:Int):Int:=if a<b then -1 else if a>b then 1 else 0
def jT(s t:List UInt8):Int:=Extern.BytealgCompare.cmp ⟨s.toArray⟩ ⟨t.toArray⟩
def dV(a b:Int):Int:=if a=0 then b else a
def vG(v w:PV):Int:=dV (aK v.k w.k) (dV (aK v.m w.m) (jT v.s w.s))
def lX:List PV->List PV->Int
 |[],[]=>0
 |[],_::_=> -1
 |_::_,[]=>1
 |v::l,w::m=>dV (vG v w) (lX l m)
def Jh(r1:List UInt8)(a:List PV)(r2:List UInt8)(b:List PV):Int:=dV (jT r1 r2) (lX a b)
section
variable(Y:Fe)(Z:Ge)
include Y Z
theorem aen(old:Old)(F:Fw old)(FF:Gw old)(a b:Int)(c:(a !=a)=false)(d:(b !=b)=false)(f:(decide (a<b))=true):DR old (ent (E.wo old) 53 [zI a,zI b]) ⟨.e,0,0⟩ (zI (-1)) ⟨.e,0,0⟩:=
 prt F FF (Qk 7 (DoesC.of_run F FF (n:=3000) (p:=((.bool (a !=a)),⟨.e,0,0⟩)) (by kernel_rfl):DC old 108 [zI a] ⟨.e,0,0⟩ (.bool (a !=a)) ⟨.e,0,0⟩) (Qb 0 c (Qk 4 (DoesC.of_run F FF (n:=3000) (p:=((.bool (b !=b)),⟨.e,0,0⟩)) (by kernel_rfl):DC old 108 [zI b] ⟨.e,0,0⟩ (.bool (b !=b)) ⟨.e,0,0⟩) (Qb 0 d (Qb 20 f (Qn 7)))))) (by kernel_rfl)
theorem aad(old:Old)(F:Fw old)(FF:Gw old)(a b:Int)(c:(a !=a)=false)(d:(b !=b)=false)(f:(decide (a<b))=true):DC old 53 [zI a,zI b] ⟨.e,0,0⟩ (zI (-1)) ⟨.e,0,0⟩:=
 DoesC.drop (DoesC.ent FF (by kernel_rfl) (aen Y Z old F FF a b c d f)) [] (by kernel_rfl) (by kernel_rfl) (by kernel_rfl) rfl (by kernel_rfl) (by kernel_rfl) (by kernel_rfl)
theorem aem(old:Old)(F:Fw old)(FF:Gw old)(a b:Int)(c:(a !=a)=false)(d:(b !=b)=false)(f:(decide (a<b))=false)(g:(decide (a>b))=true):DR old (ent (E.wo old) 53 [zI a,zI b]) ⟨.e,0,0⟩ (zI 1) ⟨.e,0,0⟩:=
 prt F FF (Qk 7 (DoesC.of_run F FF (n:=3000) (p:=((.bool (a !=a)),⟨.e,0,0⟩)) (by kernel_rfl):DC old 108 [zI a] ⟨.e,0,0⟩ (.bool (a !=a)) ⟨.e,0,0⟩) (Qb 0 c (Qk 4 (DoesC.of_run F FF (n:=3000) (p:=((.bool (b !=b)),⟨.e,0,0⟩)) (by kernel_rfl):DC old 108 [zI b] ⟨.e,0,0⟩ (.bool (b !=b)) ⟨.e,0,0⟩) (Qb 0 d (Qb 20 f (Qb 8 g (Qn 7))))))) (by kernel_rfl)
theorem aac(old:Old)(F:Fw old)(FF:Gw old)(a b:Int)(c:(a !=a)=false)(d:(b !=b)=false)(f:(decide (a<b))=false)(g:(decide (a>b))=true):DC old 53 [zI a,zI b] ⟨.e,0,0⟩ (zI 1) ⟨.e,0,0⟩:=
 DoesC.drop (DoesC.ent FF (by kernel_rfl) (aem Y Z old F FF a b c d f g)) [] (by kernel_rfl) (by kernel_rfl) (by kernel_rfl) rfl (by kernel_rfl) (by kernel_rfl) (by kernel_rfl)
theorem ael(old:Old)(F:Fw old)(FF:Gw old)(a b:Int)(c:(a !=a)=false)(d:(b !=b)=false)(f:(decide (a<b))=false)(g:(decide (a>b))=false):DR old (ent (E.wo old) 53 [zI a,zI b]) ⟨.e,0,0⟩ (zI 0) ⟨.e,0,0⟩:=
 prt F FF (Qk 7 (DoesC.of_run F FF (n:=3000) (p:=((.bool (a !=a)),⟨.e,0,0⟩)) (by kernel_rfl):DC old 108 [zI a] ⟨.e,0,0⟩ (.bool (a !=a)) ⟨.e,0,0⟩) (Qb 0 c (Qk 4 (DoesC.of_run F FF (n:=3000) (p:=((.bool (b !=b)),⟨.e,0,0⟩)) (by kernel_rfl):DC old 108 [zI b] ⟨.e,0,0⟩ (.bool (b !=b)) ⟨.e,0,0⟩) (Qb 0 d (Qb 20 f (Qb 8 g (Qn 8))))))) (by kernel_rfl)
theorem Z9(old:Old)(F:Fw old)(FF:Gw old)(a b:Int)(c:(a !=a)=false)(d:(b !=b)=false)(f:(decide (a<b))=false)(g:(decide (a>b))=false):DC old 53 [zI a,zI b] ⟨.e,0,0⟩ (zI 0) ⟨.e,0,0⟩:=
 DoesC.drop (DoesC.ent FF (by kernel_rfl) (ael Y Z old F FF a b c d f g)) [] (by kernel_rfl) (by kernel_rfl) (by kernel_rfl) rfl (by kernel_rfl) (by kernel_rfl) (by kernel_rfl)
end
section
variable{P:Program}{args:List AV}{g:FuncId}{h:AH}{v:AV}
theorem DoesC.ov{E:Env}(C:DoesC P E g args eH v eH)(b:AV.fG 0 args=true)(c:v.low 0=true)(a:h.df=0)(d:Nat.ble h.nx OLD=true):DoesC P E g args h v h:=DoesC.over C b c a (aJ d)
theorem zy(a:Int):(a !=a)=false:=by simp
section
variable(W:Fe)(Y:Ge)(Z:Old)(F:Fw Z)(X:Gw Z)
include W Y F X
theorem Gg(a b:Int):DC Z 53 [zI a,zI b] eH (zI (aK a b)) eH:=by
 unfold aK;split
 .rename_i h;exact aad W Y Z F X a b (zy a) (zy b) (aB h)
 .rename_i h
  split
  .rename_i c;exact aac W Y Z F X a b (zy a) (zy b) (aH h) (aB c)
  .rename_i c;exact Z9 W Y Z F X a b (zy a) (zy b) (aH h) (aH c)
end
end
section
variable(Y:Fe)(Z:Ge)
include Y Z
section
variable(R:Old)(F:Fw R)(Q:Gw R)(W S X T:Int)(U V:List UInt8)
include R F Q W S X T U V
theorem OW(a:(aK W X !=0)=true):DR R (ent (E.wo R) 52 [.sl 2 0 3 (some 3)]) (dJ (uY X T V) (uY W S U) (.cells [zI (aK W X),zI (aK S T),zI (mX U V)] 3 false false)) (zI (aK W X)) (dJ (uY X T V) (uY W S U) (.cells [zI (aK W X),zI (aK S T),zI (mX U V)] 3 false false)):=
 prt F Q (Qb 36 a (Qn 8)) (by kernel_rfl)
theorem OV(a:(aK W X !=0)=false)(b:(aK S T !=0)=true):DR R (ent (E.wo R) 52 [.sl 2 0 3 (some 3)]) (dJ (uY X T V) (uY W S U) (.cells [zI (aK W X),zI (aK S T),zI (mX U V)] 3 false false)) (zI (aK S T)) (dJ (uY X T V) (uY W S U) (.cells [zI (aK W X),zI (aK S T),zI (mX U V)] 3 false false)):=
 prt F Q (Qb 36 a (Qb 28 b (Qn 8))) (by kernel_rfl)
theorem OU(a:(aK W X !=0)=false)(b:(aK S T !=0)=false)(c:(mX U V !=0)=true):DR R (ent (E.wo R) 52 [.sl 2 0 3 (some 3)]) (dJ (uY X T V) (uY W S U) (.cells [zI (aK W X),zI (aK S T),zI (mX U V)] 3 false false)) (zI (mX U V)) (dJ (uY X T V) (uY W S U) (.cells [zI (aK W X),zI (aK S T),zI (mX U V)] 3 false false)):=
 prt F Q (Qb 36 a (Qb 28 b (Qb 28 c (Qn 8)))) (by kernel_rfl)
theorem OT(a:(aK W X !=0)=false)(b:(aK S T !=0)=false)(c:(mX U V !=0)=false):DR R (ent (E.wo R) 52 [.sl 2 0 3 (some 3)]) (dJ (uY X T V) (uY W S U) (.cells [zI (aK W X),zI (aK S T),zI (mX U V)] 3 false false)) (zI 0) (dJ (uY X T V) (uY W S U) (.cells [zI (aK W X),zI (aK S T),zI (mX U V)] 3 false false)):=
 prt F Q (Qb 36 a (Qb 28 b (Qb 28 c (Qn 22)))) (by kernel_rfl)
theorem aew(a:(aK W X !=0)=true):DR R (ent (E.wo R) 138 [uq W S U,uq X T V]) ⟨.e,0,0⟩ (zI (aK W X)) (dJ (uY X T V) (uY W S U) (.cells [zI (aK W X),zI (aK S T),zI (mX U V)] 3 false false)):=
 prt F Q (Qd 7 [.c,.c,.c,.c,.k (zI (aK W X)) (gZ X T V W S U),.c,.c,.c,.c,.k (zI (aK S T)) (gZ X T V W S U),.c,.c,.c,.c,.k (zI (mX U V)) (gZ X T V W S U),.c,.k (zI (aK W X)) (dJ (uY X T V) (uY W S U) (.cells [zI (aK W X),zI (aK S T),zI (mX U V)] 3 false false)),.c] (Qp (DoesC.ov (Gg Y Z R F Q W X) rfl rfl rfl (by kernel_rfl):DC R 53 [zI W,zI X] (gZ X T V W S U) (zI (aK W X)) (gZ X T V W S U)) (Qp (DoesC.ov (Gg Y Z R F Q S T) rfl rfl rfl (by kernel_rfl):DC R 53 [zI S,zI T] (gZ X T V W S U) (zI (aK S T)) (gZ X T V W S U)) (Qp (DoesC.of_run F Q (n:=3000) (p:=((zI (mX U V)),(gZ X T V W S U))) (by kernel_rfl):DC R 78 [.str U,.str V] (gZ X T V W S U) (zI (mX U V)) (gZ X T V W S U)) (Qp (DoesC.ent Q (by kernel_rfl) (OW Y Z R F Q W S X T U V a):DC R 52 [.sl 2 0 3 (some 3)] (dJ (uY X T V) (uY W S U) (.cells [zI (aK W X),zI (aK S T),zI (mX U V)] 3 false false)) (zI (aK W X)) (dJ (uY X T V) (uY W S U) (.cells [zI (aK W X),zI (aK S T),zI (mX U V)] 3 false false))) (Qs (.str V) (Qs (.str V) (Qs (.str V) (Qs (.str U) (Qs (.str U) (Qs (.str U) (Qs (zI T) (Qs (zI T) (Qs (zI S) (Qs (zI S) (Qs (zI X) (Qs (zI W) (Qn 1)))))))))))))))))) (by kernel_rfl)
end
theorem aak(old:Old)(F:Fw old)(FF:Gw old)(k1 m1 k2 m2:Int)(s1 s2:List UInt8)(a:(aK k1 k2 !=0)=true):DC old 138 [uq k1 m1 s1,uq k2 m2 s2] ⟨.e,0,0⟩ (zI (aK k1 k2)) ⟨.e,0,0⟩:=
 DoesC.drop (DoesC.ent FF (by kernel_rfl) (aew Y Z old F FF k1 m1 k2 m2 s1 s2 a)) [] (by kernel_rfl) (by kernel_rfl) (by kernel_rfl) rfl (by kernel_rfl) (by kernel_rfl) (by kernel_rfl)
theorem aev(old:Old)(F:Fw old)(FF:Gw old)(k1 m1 k2 m2:Int)(s1 s2:List UInt8)(a:(aK k1 k2 !=0)=false)(b:(aK m1 m2 !=0)=true):DR old (ent (E.wo old) 138 [uq k1 m1 s1,uq k2 m2 s2]) ⟨.e,0,0⟩ (zI (aK m1 m2)) (dJ (uY k2 m2 s2) (uY k1 m1 s1) (.cells [zI (aK k1 k2),zI (aK m1 m2),zI (mX s1 s2)] 3 false false)):=
 prt F FF (Qd 7 [.c,.c,.c,.c,.k (zI (aK k1 k2)) (gZ k2 m2 s2 k1 m1 s1),.c,.c,.c,.c,.k (zI (aK m1 m2)) (gZ k2 m2 s2 k1 m1 s1),.c,.c,.c,.c,.k (zI (mX s1 s2)) (gZ k2 m2 s2 k1 m1 s1),.c,.k (zI (aK m1 m2)) (dJ (uY k2 m2 s2) (uY k1 m1 s1) (.cells [zI (aK k1 k2),zI (aK m1 m2),zI (mX s1 s2)] 3 false false)),.c] (Qp (DoesC.ov (Gg Y Z old F FF k1 k2) rfl rfl rfl (by kernel_rfl):DC old 53 [zI k1,zI k2] (gZ k2 m2 s2 k1 m1 s1) (zI (aK k1 k2)) (gZ k2 m2 s2 k1 m1 s1)) (Qp (DoesC.ov (Gg Y Z old F FF m1 m2) rfl rfl rfl (by kernel_rfl):DC old 53 [zI m1,zI m2] (gZ k2 m2 s2 k1 m1 s1) (zI (aK m1 m2)) (gZ k2 m2 s2 k1 m1 s1)) (Qp (DoesC.of_run F FF (n:=3000) (p:=((zI (mX s1 s2)),(gZ k2 m2 s2 k1 m1 s1))) (by kernel_rfl):DC old 78 [.str s1,.str s2] (gZ k2 m2 s2 k1 m1 s1) (zI (mX s1 s2)) (gZ k2 m2 s2 k1 m1 s1)) (Qp (DoesC.ent FF (by kernel_rfl) (OV Y Z old F FF k1 m1 k2 m2 s1 s2 a b):DC old 52 [.sl 2 0 3 (some 3)] (dJ (uY k2 m2 s2) (uY k1 m1 s1) (.cells [zI (aK k1 k2),zI (aK m1 m2),zI (mX s1 s2)] 3 false false)) (zI (aK m1 m2)) (dJ (uY k2 m2 s2) (uY k1 m1 s1) (.cells [zI (aK k1 k2),zI (aK m1 m2),zI (mX s1 s2)] 3 false false))) (Qs (.str s2) (Qs (.str s2) (Qs (.str s2) (Qs (.str s1) (Qs (.str s1) (Qs (.str s1) (Qs (zI m2) (Qs (zI m2) (Qs (zI m1) (Qs (zI m1) (Qs (zI k2) (Qs (zI k1) (Qn 1)))))))))))))))))) (by kernel_rfl)
theorem aaj(old:Old)(F:Fw old)(FF:Gw old)(k1 m1 k2 m2:Int)(s1 s2:List UInt8)(a:(aK k1 k2 !=0)=false)(b:(aK m1 m2 !=0)=true):DC old 138 [uq k1 m1 s1,uq k2 m2 s2] ⟨.e,0,0⟩ (zI (aK m1 m2)) ⟨.e,0,0⟩:=
 DoesC.drop (DoesC.ent FF (by kernel_rfl) (aev Y Z old F FF k1 m1 k2 m2 s1 s2 a b)) [] (by kernel_rfl) (by kernel_rfl) (by kernel_rfl) rfl (by kernel_rfl) (by kernel_rfl) (by kernel_rfl)
theorem aeu(old:Old)(F:Fw old)(FF:Gw old)(k1 m1 k2 m2:Int)(s1 s2:List UInt8)(a:(aK k1 k2 !=0)=false)(b:(aK m1 m2 !=0)=false)(d:(mX s1 s2 !=0)=true):DR old (ent (E.wo old) 138 [uq k1 m1 s1,uq k2 m2 s2]) ⟨.e,0,0⟩ (zI (mX s1 s2)) (dJ (uY k2 m2 s2) (uY k1 m1 s1) (.cells [zI (aK k1 k2),zI (aK m1 m2),zI (mX s1 s2)] 3 false false)):=
 prt F FF (Qd 7 [.c,.c,.c,.c,.k (zI (aK k1 k2)) (gZ k2 m2 s2 k1 m1 s1),.c,.c,.c,.c,.k (zI (aK m1 m2)) (gZ k2 m2 s2 k1 m1 s1),.c,.c,.c,.c,.k (zI (mX s1 s2)) (gZ k2 m2 s2 k1 m1 s1),.c,.k (zI (mX s1 s2)) (dJ (uY k2 m2 s2) (uY k1 m1 s1) (.cells [zI (aK k1 k2),zI (aK m1 m2),zI (mX s1 s2)] 3 false false)),.c] (Qp (DoesC.ov (Gg Y Z old F FF k1 k2) rfl rfl rfl (by kernel_rfl):DC old 53 [zI k1,zI k2] (gZ k2 m2 s2 k1 m1 s1) (zI (aK k1 k2)) (gZ k2 m2 s2 k1 m1 s1)) (Qp (DoesC.ov (Gg Y Z old F FF m1 m2) rfl rfl rfl (by kernel_rfl):DC old 53 [zI m1,zI m2] (gZ k2 m2 s2 k1 m1 s1) (zI (aK m1 m2)) (gZ k2 m2 s2 k1 m1 s1)) (Qp (DoesC.of_run F FF (n:=3000) (p:=((zI (mX s1 s2)),(gZ k2 m2 s2 k1 m1 s1))) (by kernel_rfl):DC old 78 [.str s1,.str s2] (gZ k2 m2 s2 k1 m1 s1) (zI (mX s1 s2)) (gZ k2 m2 s2 k1 m1 s1)) (Qp (DoesC.ent FF (by kernel_rfl) (OU Y Z old F FF k1 m1 k2 m2 s1 s2 a b d):DC old 52 [.sl 2 0 3 (some 3)] (dJ (uY k2 m2 s2) (uY k1 m1 s1) (.cells [zI (aK k1 k2),zI (aK m1 m2),zI (mX s1 s2)] 3 false false)) (zI (mX s1 s2)) (dJ (uY k2 m2 s2) (uY k1 m1 s1) (.cells [zI (aK k1 k2),zI (aK m1 m2),zI (mX s1 s2)] 3 false false))) (Qs (.str s2) (Qs (.str s2) (Qs (.str s2) (Qs (.str s1) (Qs (.str s1) (Qs (.str s1) (Qs (zI m2) (Qs (zI m2) (Qs (zI m1) (Qs (zI m1) (Qs (zI k2) (Qs (zI k1) (Qn 1)))))))))))))))))) (by kernel_rfl)
theorem aai(old:Old)(F:Fw old)(FF:Gw old)(k1 m1 k2 m2:Int)(s1 s2:List UInt8)(a:(aK k1 k2 !=0)=false)(b:(aK m1 m2 !=0)=false)(c:(mX s1 s2 !=0)=true):DC old 138 [uq k1 m1 s1,uq k2 m2 s2] ⟨.e,0,0⟩ (zI (mX s1 s2)) ⟨.e,0,0⟩:=
 DoesC.drop (DoesC.ent FF (by kernel_rfl) (aeu Y Z old F FF k1 m1 k2 m2 s1 s2 a b c)) [] (by kernel_rfl) (by kernel_rfl) (by kernel_rfl) rfl (by kernel_rfl) (by kernel_rfl) (by kernel_rfl)
theorem aes(old:Old)(F:Fw old)(FF:Gw old)(k1 m1 k2 m2:Int)(s1 s2:List UInt8)(a:(aK k1 k2 !=0)=false)(b:(aK m1 m2 !=0)=false)(d:(mX s1 s2 !=0)=false):DR old (ent (E.wo old) 138 [uq k1 m1 s1,uq k2 m2 s2]) ⟨.e,0,0⟩ (zI 0) (dJ (uY k2 m2 s2) (uY k1 m1 s1) (.cells [zI (aK k1 k2),zI (aK m1 m2),zI (mX s1 s2)] 3 false false)):=
 prt F FF (Qd 7 [.c,.c,.c,.c,.k (zI (aK k1 k2)) (gZ k2 m2 s2 k1 m1 s1),.c,.c,.c,.c,.k (zI (aK m1 m2)) (gZ k2 m2 s2 k1 m1 s1),.c,.c,.c,.c,.k (zI (mX s1 s2)) (gZ k2 m2 s2 k1 m1 s1),.c,.k (zI 0) (dJ (uY k2 m2 s2) (uY k1 m1 s1) (.cells [zI (aK k1 k2),zI (aK m1 m2),zI (mX s1 s2)] 3 false false)),.c] (Qp (DoesC.ov (Gg Y Z old F FF k1 k2) rfl rfl rfl (by kernel_rfl):DC old 53 [zI k1,zI k2] (gZ k2 m2 s2 k1 m1 s1) (zI (aK k1 k2)) (gZ k2 m2 s2 k1 m1 s1)) (Qp (DoesC.ov (Gg Y Z old F FF m1 m2) rfl rfl rfl (by kernel_rfl):DC old 53 [zI m1,zI m2] (gZ k2 m2 s2 k1 m1 s1) (zI (aK m1 m2)) (gZ k2 m2 s2 k1 m1 s1)) (Qp (DoesC.of_run F FF (n:=3000) (p:=((zI (mX s1 s2)),(gZ k2 m2 s2 k1 m1 s1))) (by kernel_rfl):DC old 78 [.str s1,.str s2] (gZ k2 m2 s2 k1 m1 s1) (zI (mX s1 s2)) (gZ k2 m2 s2 k1 m1 s1)) (Qp (DoesC.ent FF (by kernel_rfl) (OT Y Z old F FF k1 m1 k2 m2 s1 s2 a b d):DC old 52 [.sl 2 0 3 (some 3)] (dJ (uY k2 m2 s2) (uY k1 m1 s1) (.cells [zI (aK k1 k2),zI (aK m1 m2),zI (mX s1 s2)] 3 false false)) (zI 0) (dJ (uY k2 m2 s2) (uY k1 m1 s1) (.cells [zI (aK k1 k2),zI (aK m1 m2),zI (mX s1 s2)] 3 false false))) (Qs (.str s2) (Qs (.str s2) (Qs (.str s2) (Qs (.str s1) (Qs (.str s1) (Qs (.str s1) (Qs (zI m2) (Qs (zI m2) (Qs (zI m1) (Qs (zI m1) (Qs (zI k2) (Qs (zI k1) (Qn 1)))))))))))))))))) (by kernel_rfl)
theorem aah(old:Old)(F:Fw old)(FF:Gw old)(k1 m1 k2 m2:Int)(s1 s2:List UInt8)(a:(aK k1 k2 !=0)=false)(b:(aK m1 m2 !=0)=false)(c:(mX s1 s2 !=0)=false):DC old 138 [uq k1 m1 s1,uq k2 m2 s2] ⟨.e,0,0⟩ (zI 0) ⟨.e,0,0⟩:=
 DoesC.drop (DoesC.ent FF (by kernel_rfl) (aes Y Z old F FF k1 m1 k2 m2 s1 s2 a b c)) [] (by kernel_rfl) (by kernel_rfl) (by kernel_rfl) rfl (by kernel_rfl) (by kernel_rfl) (by kernel_rfl)
end
theorem BX{a:Int}(h:¬a=0):(a !=0)=true:=by simpa using h
theorem rM{a:Int}(h:a=0):(a !=0)=false:=by simpa using h
section
variable(W:Fe)(Y:Ge)(Z:Old)(F:Fw Z)(X:Gw Z)
include W Y F X
theorem c131(k1 a b m2:Int)(c d:List UInt8):DC Z 138 [uq k1 a c,uq b m2 d] eH (zI (dV (aK k1 b) (dV (aK a m2) (jT c d)))) eH:=by
 unfold dV;by_cases h1:aK k1 b=0
 .rw[aC h1]
  by_cases e:aK a m2=0
  .rw[aC e]
   by_cases f:jT c d=0
   .rw[f];exact aah W Y Z F X k1 a b m2 c d (rM h1) (rM e) (rM f)
   .exact aai W Y Z F X k1 a b m2 c d (rM h1) (rM e) (BX f)
  .rw[ah e];exact aaj W Y Z F X k1 a b m2 c d (rM h1) (BX e)
 .rw[ah h1];exact aak W Y Z F X k1 a b m2 c d (BX h1)
end
section
variable(Y:Fe)(Z:Ge)
include Y Z
section
variable(X:Old)(F:Fw X)(L:Gw X)(P Q N O:Nat)(n m c d:Nat)(i:Int)(U V R S:Int)(W T:List UInt8)(M:0<=i)(C:i<n)(D:i<m)(G:∀h,loadT (E.wo X) h 101 (OLD+P) (Q+i.toNat*3)=some (uq U V W))(H:∀h,loadT (E.wo X) h 101 (OLD+N) (O+i.toNat*3)=some (uq R S T))(J:(decide (i<(↑n:Int)))=true)(K:(decide (i≥(↑m:Int)))=false)
include X F L P Q N O n m c d i U V R S W T M C D G H J K
theorem aei(a:(dV (aK U R) (dV (aK V S) (jT W T))!=0)=true):DR X (Uo (.aO (some (P,Q)) n c) (.aO (some (N,O)) m d) (zI i) (.aO (some (P,Q)) n c) (zI (↑n:Int))) ⟨.e,0,0⟩ (zI (dV (aK U R) (dV (aK V S) (jT W T)))) (gZ R S T U V W):=
 prt F L (Qb 2 J (Qv 9 (Zl X P Q c M C) (Qv 0 (G ⟨.e,0,0⟩) (Qb 10 K (Qv 7 (Zl X N O d M D) (Qv 0 (H (je (uY U V W))) (Qk 8 (DoesC.ov (c131 Y Z X F L U V R S W T) rfl rfl rfl (by kernel_rfl):DC X 138 [uq U V W,uq R S T] (gZ R S T U V W) (zI (dV (aK U R) (dV (aK V S) (jT W T)))) (gZ R S T U V W)) (Qb 5 a (Qn 8))))))))) (by kernel_rfl)
theorem aeh(a:(dV (aK U R) (dV (aK V S) (jT W T))!=0)=false):DS X (Uo (.aO (some (P,Q)) n c) (.aO (some (N,O)) m d) (zI i) (.aO (some (P,Q)) n c) (zI (↑n:Int))) ⟨.e,0,0⟩ (Uo (.aO (some (P,Q)) n c) (.aO (some (N,O)) m d) (zI (IntKind.i64.wrap (i+1))) (.aO (some (P,Q)) n c) (zI (↑n:Int))) (gZ R S T U V W):=
 qH F L [0,1,2,11,12,13] (Qb 2 J (Qv 9 (Zl X P Q c M C) (Qv 0 (G ⟨.e,0,0⟩) (Qb 10 K (Qv 7 (Zl X N O d M D) (Qv 0 (H (je (uY U V W))) (Qk 8 (DoesC.ov (c131 Y Z X F L U V R S W T) rfl rfl rfl (by kernel_rfl):DC X 138 [uq U V W,uq R S T] (gZ R S T U V W) (zI (dV (aK U R) (dV (aK V S) (jT W T)))) (gZ R S T U V W)) (Qb 5 a (Qn 9))))))))) (by kernel_rfl)
end
section
variable(X:Old)(F:Fw X)(W:Gw X)
include X F W
theorem afA(a1 a2:Nat)(b:Option (Nat×Nat))(n m c d:Nat)(i:Int)(k1 m1:Int)(s1:List UInt8)(h0:0<=i)(h1:i<n)(h2:(m:Int)<=i)(hL:∀h,loadT (E.wo X) h 101 (OLD+a1) (a2+i.toNat*3)=some (uq k1 m1 s1))(o1:(decide (i<(↑n:Int)))=true)(o2:(decide (i≥(↑m:Int)))=true):DR X (Uo (.aO (some (a1,a2)) n c) (.aO b m d) (zI i) (.aO (some (a1,a2)) n c) (zI (↑n:Int))) ⟨.e,0,0⟩ (zI 1) (je (uY k1 m1 s1)):=
 prt F W (Qb 2 o1 (Qv 9 (Zl X a1 a2 c h0 h1) (Qv 0 (hL ⟨.e,0,0⟩) (Qb 10 o2 (Qn 7))))) (by kernel_rfl)
theorem acn(a b:Option (Nat×Nat))(n m c d:Nat)(i:Int)(o1:(decide (i<(↑n:Int)))=false)(o2:(decide ((↑n:Int)<(↑m:Int)))=true):DR X (Uo (.aO a n c) (.aO b m d) (zI i) (.aO a n c) (zI (↑n:Int))) ⟨.e,0,0⟩ (zI (-1)) ⟨.e,0,0⟩:=
 prt F W (Qb 2 o1 (Qb 11 o2 (Qn 7))) (by kernel_rfl)
theorem acj(a b:Option (Nat×Nat))(n m c d:Nat)(i:Int)(o1:(decide (i<(↑n:Int)))=false)(o2:(decide ((↑n:Int)<(↑m:Int)))=false):DR X (Uo (.aO a n c) (.aO b m d) (zI i) (.aO a n c) (zI (↑n:Int))) ⟨.e,0,0⟩ (zI 0) ⟨.e,0,0⟩:=
 prt F W (Qb 2 o1 (Qb 11 o2 (Qn 8))) (by kernel_rfl)
theorem afz(a b:Option (Nat×Nat))(n m c d:Nat):DS X (ent (E.wo X) 137 [.aO a n c,.aO b m d,.fn 138 [] []]) ⟨.e,0,0⟩ (Uo (.aO a n c) (.aO b m d) (zI 0) (.aO a n c) (zI (↑n:Int))) ⟨.e,0,0⟩:=
 qH F W [0,1,2,11,12,13] (Qn 13) (by kernel_rfl)
end
end
section
variable{b i:Nat}{v:AV}
def Suf(old:Old)(a:Option (Nat×Nat))(i:Nat)(r:List PV):Prop:=r=[]∨∃b o,a=some (b,o)∧iI old b (o+i*3) (r.length*3)=some (fH r)
theorem iJ.suf{old:Old}{l:List PV}(h:iJ old v l):∃a c,v= .aO a l.length c∧Suf old a 0 l:=by
 rcases h with⟨b,o,c,rfl,e⟩|⟨rfl,h0,h1⟩
 .exact⟨_,_,rfl,.inr ⟨b,o,rfl,by rw[jl];exact e⟩⟩
 .exact⟨none,0,by rw[h0],.inl (bM.1 h0)⟩
theorem Suf.next{old:Old}{a:Option (Nat×Nat)}{x:PV}{r:List PV}(h:Suf old a i (x::r)):∃b o,a=some (b,o)∧iI old b (o+i*3) 3=some x.cells∧Suf old a (i+1) r:=by
 rcases h with h|⟨b,o,rfl,e⟩
 .cases h
 .rw[show(x::r).length*3=3+r.length*3 by simp;omega]at e
  obtain⟨c1,c2,c,h1,d,f⟩:=ug e;have:=List.append_inj (s₁:=x.cells) (t₁:=fH r) (s₂:=c1) (t₂:=c2) c (by rw[h1];rfl);obtain⟨rfl,rfl⟩:=this;exact⟨b,o,rfl,d,.inr ⟨b,o,rfl,by rw[show o+(i+1)*3=o+i*3+3 by omega];exact f⟩⟩
theorem wO{old:Old}{o:Nat}{x:PV}(h:iI old b o 3=some x.cells)(hp:AH):loadT (E.wo old) hp 101 (OLD+b) o=some (.agg [zI x.k,zI x.m,.str x.s]):=
 yN (E:=E.wo old) (t:=101) (ti:=(E.tt.get 101).getD default) (by kernel_rfl) (by kernel_rfl) (by rw[show((E.tt.get 101).getD default).size=3 by kernel_rfl];exact h)
theorem Zn(h:i<=268435456):IntKind.i64.wrap ((↑i:Int)+1)=(↑(i+1):Int):=by
 unfold IntKind.wrap;simp[IntKind.signed,IntKind.bits];omega
noncomputable def afo(a:Option (Nat×Nat))(n c:Nat)(b:Option (Nat×Nat))(m d:Nat)(i:Int):AF:=(Uo (.aO a n c) (.aO b m d) (zI i) (.aO a n c) (zI ((↑n:Int))))
section
variable(W:Fe)(Y:Ge)(Z:Old)(F:Fw Z)(X:Gw Z)
include W Y F X
theorem Xn(a:Option (Nat×Nat))(n c:Nat)(b:Option (Nat×Nat))(m d:Nat)(t:n<=268435456):∀(r1 r2:List PV) (i:Nat),Suf Z a i r1->Suf Z b i r2->n=i+r1.length->m=i+r2.length->jD prog (E.wo Z) (afo a n c b m d (↑i:Int)) (zI (lX r1 r2))
 |[],[],i,j,l,h1,e=>jD.it (acj W Y Z F X a b n m c d (↑i:Int) (aH (by simp at h1;omega)) (aH (by simp at h1 e;omega))) (by kernel_rfl) rfl
 |[],y::r2,i,j,l,h1,e=>jD.it (acn W Y Z F X a b n m c d (↑i:Int) (aH (by simp at h1;omega)) (aB (by simp at h1 e;omega))) (by kernel_rfl) rfl
 |x::r1,[],i,j,l,h1,e=>by
  obtain⟨f,g,rfl,e1,_⟩:=j.next
  exact jD.it (afA W Y Z F X f g b n m c d (↑i:Int) x.k x.m x.s (by omega) (by simp at h1;omega) (by simp at e;omega) (λh=>by rw[bZ];exact wO e1 h) (aB (by simp at h1;omega)) (aB (by simp at e;show(m:Int)<=i;omega))) (by kernel_rfl) rfl
 |x::r1,y::r2,i,j,l,h1,e=>by
  obtain⟨f,g,rfl,e1,u⟩:=j.next
  obtain⟨o,p,rfl,e2,v⟩:=l.next
  have l1:∀h,loadT (E.wo Z) h 101 (OLD+f) (g+(↑i:Int).toNat*3)=some (.agg [zI x.k,zI x.m,.str x.s]):=λh=>by rw[bZ];exact wO e1 h
  have l2:∀h,loadT (E.wo Z) h 101 (OLD+o) (p+(↑i:Int).toNat*3)=some (.agg [zI y.k,zI y.m,.str y.s]):=λh=>by rw[bZ];exact wO e2 h
  have q:(↑i:Int)<(↑n:Int):=by simp at h1;omega
  have g2:(↑i:Int)<(↑m:Int):=by simp at e;omega
  show jD _ _ _ (zI (dV (vG x y) (lX r1 r2)));by_cases r:vG x y=0
  .have A:=aeh W Y Z F X f g o p n m c d (↑i:Int) x.k x.m y.k y.m x.s y.s (by omega) q g2 l1 l2 (aB q) (aH (by omega)) (rM r)
   rw[Zn (by simp at h1;omega)]at A;have B:=Xn (some (f,g)) n c (some (o,p)) m d t r1 r2 (i+1) u v (by simp at h1;omega) (by simp at e;omega);rw[show dV (vG x y) (lX r1 r2)=lX r1 r2 by unfold dV;rw[aC r]];exact jD.of (A.agx rfl (by kernel_rfl) (AF.sJ (by kernel_rfl)) (AF.sJ (by kernel_rfl))) B
  .rw[show dV (vG x y) (lX r1 r2)=vG x y by unfold dV;rw[ah r]]
   exact jD.it (aei W Y Z F X f g o p n m c d (↑i:Int) x.k x.m y.k y.m x.s y.s (by omega) q g2 l1 l2 (aB q) (aH (by omega)) (BX r)) (by kernel_rfl) rfl
theorem c130{w:AV}{l m:List PV}(e:iJ Z v l)(f:iJ Z w m)(g:l.length<=268435456):DC Z 137 [v,w,.fn 138 [] []] eH (zI (lX l m)) eH:=by
 obtain⟨a,c,rfl,h⟩:=e.suf;obtain⟨b,d,rfl,i⟩:=f.suf;exact DoesC.Zh X (by kernel_rfl) (jD.of (afz W Y Z F X a b l.length m.length c d) (Xn W Y Z F X a l.length c b m.length d g l m 0 h i (by omega) (by omega))) rfl rfl
end
end
section
variable(Y:Fe)(Z:Ge)
include Y Z
section
variable(X:Old)(F:Fw X)(U:Gw X)(a b:Option (Nat×Nat))(n c m d:Nat)(V W:List UInt8)(z:Int)(T:DC X 79 (mG a n c b m d) eH (zI z) eH)
include X F U a b n c m d V W z T
theorem Rn(e:(mX V W !=0)=true):DR X (ent (E.wo X) 52 [.sl 2 0 2 (some 2)]) (dJ (nC W b m d) (nC V a n c) (.cells [zI (mX V W),zI z] 3 false false)) (zI (mX V W)) (dJ (nC W b m d) (nC V a n c) (.cells [zI (mX V W),zI z] 3 false false)):=
 prt F U (Qb 36 e (Qn 8)) (by kernel_rfl)
theorem Rl(e:(mX V W !=0)=false)(f:(z !=0)=true):DR X (ent (E.wo X) 52 [.sl 2 0 2 (some 2)]) (dJ (nC W b m d) (nC V a n c) (.cells [zI (mX V W),zI z] 3 false false)) (zI z) (dJ (nC W b m d) (nC V a n c) (.cells [zI (mX V W),zI z] 3 false false)):=
 prt F U (Qb 36 e (Qb 28 f (Qn 8))) (by kernel_rfl)
theorem Rk(e:(mX V W !=0)=false)(f:(z !=0)=false):DR X (ent (E.wo X) 52 [.sl 2 0 2 (some 2)]) (dJ (nC W b m d) (nC V a n c) (.cells [zI (mX V W),zI z] 3 false false)) (zI 0) (dJ (nC W b m d) (nC V a n c) (.cells [zI (mX V W),zI z] 3 false false)):=
 prt F U (Qb 36 e (Qb 28 f (Qn 22))) (by kernel_rfl)
end
theorem p78(old:Old)(F:Fw old)(FF:Gw old)(a b:Option (Nat×Nat))(n c m d:Nat)(z:Int)(hC:DC old 137 [.aO a n c,.aO b m d,.fn 138 [] []] eH (zI z) eH):DR old (ent (E.wo old) 79 (mG a n c b m d)) ⟨.e,0,0⟩ (zI z) ⟨.e,0,0⟩:=
 prt F FF (Qk 8 (DoesC.ov hC rfl rfl rfl (by kernel_rfl):DC old 137 [.aO a n c,.aO b m d,.fn 138 [] []] ⟨.e,0,0⟩ (zI z) ⟨.e,0,0⟩) (Qn 3)) (by kernel_rfl)
theorem afM(old:Old)(F:Fw old)(FF:Gw old)(a b:Option (Nat×Nat))(n c m d:Nat)(z:Int)(hC:DC old 137 [.aO a n c,.aO b m d,.fn 138 [] []] eH (zI z) eH):DC old 79 (mG a n c b m d) ⟨.e,0,0⟩ (zI z) ⟨.e,0,0⟩:=
 DoesC.drop (DoesC.ent FF (by kernel_rfl) (p78 Y Z old F FF a b n c m d z hC )) [] (by kernel_rfl) (by kernel_rfl) (by kernel_rfl) rfl (by kernel_rfl) (by kernel_rfl) (by kernel_rfl)
theorem afP(old:Old)(F:Fw old)(FF:Gw old)(a b:Option (Nat×Nat))(n c m d:Nat)(r1 r2:List UInt8)(z:Int)(hC:DC old 79 (mG a n c b m d) eH (zI z) eH)(f:(mX r1 r2 !=0)=true):DR old (ent (E.wo old) 37 [l9 r1 a n c,l9 r2 b m d]) ⟨.e,0,0⟩ (zI (mX r1 r2)) (dJ (nC r2 b m d) (nC r1 a n c) (.cells [zI (mX r1 r2),zI z] 3 false false)):=
 prt F FF (Qd 7 [.c,.c,.c,.c,.k (zI (mX r1 r2)) (nV r2 b m d r1 a n c),.c,.c,.c,.c,.k (zI z) (nV r2 b m d r1 a n c),.c,.k (zI (mX r1 r2)) (dJ (nC r2 b m d) (nC r1 a n c) (.cells [zI (mX r1 r2),zI z] 3 false false)),.c] (Qp (DoesC.of_run F FF (n:=3000) (p:=((zI (mX r1 r2)),(nV r2 b m d r1 a n c))) (by kernel_rfl):DC old 78 [.str r1,.str r2] (nV r2 b m d r1 a n c) (zI (mX r1 r2)) (nV r2 b m d r1 a n c)) (Qp (DoesC.ov hC rfl rfl rfl (by kernel_rfl):DC old 79 (mG a n c b m d) (nV r2 b m d r1 a n c) (zI z) (nV r2 b m d r1 a n c)) (Qp (DoesC.ent FF (by kernel_rfl) (Rn Y Z old F FF a b n c m d r1 r2 z hC f):DC old 52 [.sl 2 0 2 (some 2)] (dJ (nC r2 b m d) (nC r1 a n c) (.cells [zI (mX r1 r2),zI z] 3 false false)) (zI (mX r1 r2)) (dJ (nC r2 b m d) (nC r1 a n c) (.cells [zI (mX r1 r2),zI z] 3 false false))) (Qs (.aO b m d) (Qs (.aO b m d) (Qs (.aO a n c) (Qs (.aO a n c) (Qs (.str r2) (Qs (.str r1) (Qn 1))))))))))) (by kernel_rfl)
theorem acv(old:Old)(F:Fw old)(FF:Gw old)(a b:Option (Nat×Nat))(n c m d:Nat)(r1 r2:List UInt8)(z:Int)(hC:DC old 79 (mG a n c b m d) eH (zI z) eH)(f:(mX r1 r2 !=0)=true):DC old 37 [l9 r1 a n c,l9 r2 b m d] ⟨.e,0,0⟩ (zI (mX r1 r2)) ⟨.e,0,0⟩:=
 DoesC.drop (DoesC.ent FF (by kernel_rfl) (afP Y Z old F FF a b n c m d r1 r2 z hC f)) [] (by kernel_rfl) (by kernel_rfl) (by kernel_rfl) rfl (by kernel_rfl) (by kernel_rfl) (by kernel_rfl)
theorem afO(old:Old)(F:Fw old)(FF:Gw old)(a b:Option (Nat×Nat))(n c m d:Nat)(r1 r2:List UInt8)(z:Int)(hC:DC old 79 (mG a n c b m d) eH (zI z) eH)(f:(mX r1 r2 !=0)=false)(g:(z !=0)=true):DR old (ent (E.wo old) 37 [l9 r1 a n c,l9 r2 b m d]) ⟨.e,0,0⟩ (zI z) (dJ (nC r2 b m d) (nC r1 a n c) (.cells [zI (mX r1 r2),zI z] 3 false false)):=
 prt F FF (Qd 7 [.c,.c,.c,.c,.k (zI (mX r1 r2)) (nV r2 b m d r1 a n c),.c,.c,.c,.c,.k (zI z) (nV r2 b m d r1 a n c),.c,.k (zI z) (dJ (nC r2 b m d) (nC r1 a n c) (.cells [zI (mX r1 r2),zI z] 3 false false)),.c] (Qp (DoesC.of_run F FF (n:=3000) (p:=((zI (mX r1 r2)),(nV r2 b m d r1 a n c))) (by kernel_rfl):DC old 78 [.str r1,.str r2] (nV r2 b m d r1 a n c) (zI (mX r1 r2)) (nV r2 b m d r1 a n c)) (Qp (DoesC.ov hC rfl rfl rfl (by kernel_rfl):DC old 79 (mG a n c b m d) (nV r2 b m d r1 a n c) (zI z) (nV r2 b m d r1 a n c)) (Qp (DoesC.ent FF (by kernel_rfl) (Rl Y Z old F FF a b n c m d r1 r2 z hC f g):DC old 52 [.sl 2 0 2 (some 2)] (dJ (nC r2 b m d) (nC r1 a n c) (.cells [zI (mX r1 r2),zI z] 3 false false)) (zI z) (dJ (nC r2 b m d) (nC r1 a n c) (.cells [zI (mX r1 r2),zI z] 3 false false))) (Qs (.aO b m d) (Qs (.aO b m d) (Qs (.aO a n c) (Qs (.aO a n c) (Qs (.str r2) (Qs (.str r1) (Qn 1))))))))))) (by kernel_rfl)
theorem acu(old:Old)(F:Fw old)(FF:Gw old)(a b:Option (Nat×Nat))(n c m d:Nat)(r1 r2:List UInt8)(z:Int)(hC:DC old 79 (mG a n c b m d) eH (zI z) eH)(f:(mX r1 r2 !=0)=false)(g:(z !=0)=true):DC old 37 [l9 r1 a n c,l9 r2 b m d] ⟨.e,0,0⟩ (zI z) ⟨.e,0,0⟩:=
 DoesC.drop (DoesC.ent FF (by kernel_rfl) (afO Y Z old F FF a b n c m d r1 r2 z hC f g)) [] (by kernel_rfl) (by kernel_rfl) (by kernel_rfl) rfl (by kernel_rfl) (by kernel_rfl) (by kernel_rfl)
theorem afN(old:Old)(F:Fw old)(FF:Gw old)(a b:Option (Nat×Nat))(n c m d:Nat)(r1 r2:List UInt8)(z:Int)(hC:DC old 79 (mG a n c b m d) eH (zI z) eH)(f:(mX r1 r2 !=0)=false)(g:(z !=0)=false):DR old (ent (E.wo old) 37 [l9 r1 a n c,l9 r2 b m d]) ⟨.e,0,0⟩ (zI 0) (dJ (nC r2 b m d) (nC r1 a n c) (.cells [zI (mX r1 r2),zI z] 3 false false)):=
 prt F FF (Qd 7 [.c,.c,.c,.c,.k (zI (mX r1 r2)) (nV r2 b m d r1 a n c),.c,.c,.c,.c,.k (zI z) (nV r2 b m d r1 a n c),.c,.k (zI 0) (dJ (nC r2 b m d) (nC r1 a n c) (.cells [zI (mX r1 r2),zI z] 3 false false)),.c] (Qp (DoesC.of_run F FF (n:=3000) (p:=((zI (mX r1 r2)),(nV r2 b m d r1 a n c))) (by kernel_rfl):DC old 78 [.str r1,.str r2] (nV r2 b m d r1 a n c) (zI (mX r1 r2)) (nV r2 b m d r1 a n c)) (Qp (DoesC.ov hC rfl rfl rfl (by kernel_rfl):DC old 79 (mG a n c b m d) (nV r2 b m d r1 a n c) (zI z) (nV r2 b m d r1 a n c)) (Qp (DoesC.ent FF (by kernel_rfl) (Rk Y Z old F FF a b n c m d r1 r2 z hC f g):DC old 52 [.sl 2 0 2 (some 2)] (dJ (nC r2 b m d) (nC r1 a n c) (.cells [zI (mX r1 r2),zI z] 3 false false)) (zI 0) (dJ (nC r2 b m d) (nC r1 a n c) (.cells [zI (mX r1 r2),zI z] 3 false false))) (Qs (.aO b m d) (Qs (.aO b m d) (Qs (.aO a n c) (Qs (.aO a n c) (Qs (.str r2) (Qs (.str r1) (Qn 1))))))))))) (by kernel_rfl)
theorem acs(old:Old)(F:Fw old)(FF:Gw old)(a b:Option (Nat×Nat))(n c m d:Nat)(r1 r2:List UInt8)(z:Int)(hC:DC old 79 (mG a n c b m d) eH (zI z) eH)(f:(mX r1 r2 !=0)=false)(g:(z !=0)=false):DC old 37 [l9 r1 a n c,l9 r2 b m d] ⟨.e,0,0⟩ (zI 0) ⟨.e,0,0⟩:=
 DoesC.drop (DoesC.ent FF (by kernel_rfl) (afN Y Z old F FF a b n c m d r1 r2 z hC f g)) [] (by kernel_rfl) (by kernel_rfl) (by kernel_rfl) rfl (by kernel_rfl) (by kernel_rfl) (by kernel_rfl)
end
section
variable{r1 r2:List UInt8}{v:AV}
section
variable(W:Fe)(Y:Ge)(Z:Old)(F:Fw Z)(X:Gw Z)
include W Y F X
theorem c49{w:AV}{l m:List PV}(f:iJ Z v l)(g:iJ Z w m)(i:l.length<=268435456):DC Z 37 [.agg [.str r1,v],.agg [.str r2,w]] eH (zI (Jh r1 l r2 m)) eH:=by
 obtain⟨a,c,rfl, -⟩:=f.suf;obtain⟨b,d,rfl, -⟩:=g.suf;have e:=afM W Y Z F X a b l.length c m.length d (lX l m) (c130 W Y Z F X f g i);unfold Jh;by_cases h1:jT r1 r2=0
 .rw[show dV (jT r1 r2) (lX l m)=lX l m by unfold dV;rw[aC h1]]
  by_cases h:lX l m=0
  .rw[h]at e ⊢
   exact acs W Y Z F X a b l.length c m.length d r1 r2 0 e (rM h1) rfl
  .exact acu W Y Z F X a b l.length c m.length d r1 r2 _ e (rM h1) (BX h)
 .rw[show dV (jT r1 r2) (lX l m)=jT r1 r2 by unfold dV;rw[ah h1]]
  exact acv W Y Z F X a b l.length c m.length d r1 r2 _ e (BX h1)
end
end
theorem jB{E:Env}{t e:TypeId}{z:Nat}(a:E.d t=some (.slice e))(f:(E.tt.get e).map (·.size)=some z)(hp:E.peek=true){b o n c:Nat}{i:Int}{x:Nat}(g:i=(↑x:Int))(h:x<n):
 aZ E t (nP E (.aO (some (b,o)) n c)) (zI i)=some (.ptr (OLD+b) (o+x*z)):=by
 subst g;have:=Ah a f hp (b:=b) (o:=o) (c:=c) (i:=(↑x:Int)) (by omega) (by omega:(↑x:Int)<n);rwa[bZ]at this
section
variable(Y:Fe)(Z:Ge)
include Y Z
section
variable(X:Old)(F:Fw X)(R:Gw X)(W:Int)(U T:Nat)(V:Option Nat)(S:AH)
include X F R W U T V S
theorem isn:DR X (ent (E.wo X) 25 [.aQ,zI 0,.sl 0 0 1 (some 1)]) ⟨zL (iV W),2,0⟩ (.sl 2 0 1 none) ⟨zN .e (iV W) (zL (.cells [zI W] 3 true false)),3,0⟩:=
 prt F R (Qn 46) (by kernel_rfl)
theorem iss(n:Nat)(a:Option Nat)(c:List AV)(d:Bool)(b:gQ (E.wo X) 56 (.sl 1 0 n a) (some (zI (↑n:Int))) none none=some .emp)(e:gX (E.wo X) (jK (.cells c 3 d false) (iV W)) .append [.sl 1 0 n a,.sl 0 0 1 (some 1)] [56,56]=some (.val (.sl U 0 T V) S))(f:((↑n:Int)==(↑n:Int))=true):DR X (ent (E.wo X) 25 [.sl 1 0 n a,zI (↑n:Int),.sl 0 0 1 (some 1)]) (jK (.cells c 3 d false) (iV W)) (.sl U 0 T V) S:=
 prt F R (Qv 8 b (Qb 26 f (Ql 6 e (Qn 3)))) (by kernel_rfl)
end
end
section
theorem aaI{E:Env}{t e:TypeId}{z:Nat}(a:E.d t=some (.slice e))(f:(E.tt.get e).map (·.size)=some z)(hp:E.peek=true){b o n c:Nat}(lx:0<n):aZ E t (nP E (.aO (some (b,o)) n c)) (zI 0)=some (.ptr (OLD+b) (o+0)):=by
 have:=jB a f hp (b:=b) (o:=o) (c:=c) (i:=0) (x:=0) rfl lx;rwa[jl]at this
variable(Y:Fe)(Z:Ge)
include Y Z
section
variable(X:Old)(F:Fw X)(J:Gw X)(B y:AV)(S:List AV)(g:Bool)(R:Option Nat)(w:Nat)(D:w<=268435456)(K:IntKind.i64.wrap ((↑(w+1):Int) - 1)=(↑w:Int))(W:∀h:AH,h.obj 0= .cells S 57 g false->loadT (E.wo X) h 57 0 (w*1)=some (.ptr 1 0))(U V:Nat)(H:Option (Nat×Nat))(M G:Nat)(A:∀h:AH,loadT (E.wo X) h 25 (OLD+U) (V+3)=some (.aO H M G))(T:List UInt8)(N:Option (Nat×Nat))(O L:Nat)(P:Int)(z:∀h:AH,loadT (E.wo X) h 24 (OLD+U) V=some (l9 T N O L))(C:∀h:AH,loadT (E.wo X) h 3 (OLD+U) (V+2)=some (zI P))(Q:gQ (E.wo X) 60 (.sl 0 0 (w+1) R) none (some (zI (IntKind.i64.wrap ((↑(w+1):Int) - 1)))) none=some (.sl 0 0 w R))
include X F J B y S g R w D K W U V H M G A T N O L P z C Q
theorem MP(b:List AV)(d:Bool)(a:Option Nat)(i:M<=0)(f:DC X 21 [l9 T N O L] (Gp U V S g) (.agg [.str T,.sl 2 0 O a]) (dJ (abJ U V) (.cells S 57 g false) (xJ b d))):DR X (ent (E.wo X) 20 [.sl 0 0 (w+1) R]) (ny U V S g) (Ya6 w R) (ny U V S g):=
 prt F J (Qd 6 [.c,.c,.c,.c,.v (.sl 0 0 w R),.c,.c,.c,.c,.v (zP 0 (w*1)),.v (zP 1 0),.c,.c] (Qq Q (Qq (jk (e:=57) (by kernel_rfl) (by kernel_rfl) K (cZ w):aZ (E.wo X) 60 (nP (E.wo X) (.sl 0 0 (w+1) R)) (zI (IntKind.i64.wrap ((↑(w+1):Int) - 1)))=some (zP 0 (w*1))) (Qq (W (ny U V S g) rfl) (Qp (W (ny U V S g) rfl) (Qs (zI (↑(w+1):Int)) (Qs (zI (↑(w+1):Int)) (Qn 1)))))))) (by kernel_rfl)
theorem MO(b:M<=0)(a:DC X 21 [l9 T N O L] (Gp U V S g) (UR T) (Gp U V S g)):DR X (ent (E.wo X) 20 [.sl 0 0 (w+1) R]) (ny U V S g) (Ya6 w R) (ny U V S g):=
 prt F J (Qd 6 [.c,.c,.c,.c,.v (.sl 0 0 w R),.c,.c,.c,.c,.v (zP 0 (w*1)),.v (zP 1 0),.c,.c] (Qq Q (Qq (jk (e:=57) (by kernel_rfl) (by kernel_rfl) K (cZ w):aZ (E.wo X) 60 (nP (E.wo X) (.sl 0 0 (w+1) R)) (zI (IntKind.i64.wrap ((↑(w+1):Int) - 1)))=some (zP 0 (w*1))) (Qq (W (ny U V S g) rfl) (Qp (W (ny U V S g) rfl) (Qs (zI (↑(w+1):Int)) (Qs (zI (↑(w+1):Int)) (Qn 1)))))))) (by kernel_rfl)
theorem MN(a j:Nat)(b:Option Nat)(f:List AV)(i:Bool)(d:Option Nat)(l:M<=j)(k:DC X 21 [l9 T N O L] (Gn U V a j b S g) (.agg [.str T,.sl 2 0 O d]) (dJ (abI U V a j b) (.cells S 57 g false) (xJ f i))):DR X (ent (E.wo X) 20 [.sl 0 0 (w+1) R]) (ni U V a j b S g) (Ya6 w R) (ni U V a j b S g):=
 prt F J (Qd 6 [.c,.c,.c,.c,.v (.sl 0 0 w R),.c,.c,.c,.c,.v (zP 0 (w*1)),.v (zP 1 0),.c,.c] (Qq Q (Qq (jk (e:=57) (by kernel_rfl) (by kernel_rfl) K (cZ w):aZ (E.wo X) 60 (nP (E.wo X) (.sl 0 0 (w+1) R)) (zI (IntKind.i64.wrap ((↑(w+1):Int) - 1)))=some (zP 0 (w*1))) (Qq (W (ni U V a j b S g) rfl) (Qp (W (ni U V a j b S g) rfl) (Qs (zI (↑(w+1):Int)) (Qs (zI (↑(w+1):Int)) (Qn 1)))))))) (by kernel_rfl)
theorem ML(a j:Nat)(b:Option Nat)(f:M<=j)(d:DC X 21 [l9 T N O L] (Gn U V a j b S g) (UR T) (Gn U V a j b S g)):DR X (ent (E.wo X) 20 [.sl 0 0 (w+1) R]) (ni U V a j b S g) (Ya6 w R) (ni U V a j b S g):=
 prt F J (Qd 6 [.c,.c,.c,.c,.v (.sl 0 0 w R),.c,.c,.c,.c,.v (zP 0 (w*1)),.v (zP 1 0),.c,.c] (Qq Q (Qq (jk (e:=57) (by kernel_rfl) (by kernel_rfl) K (cZ w):aZ (E.wo X) 60 (nP (E.wo X) (.sl 0 0 (w+1) R)) (zI (IntKind.i64.wrap ((↑(w+1):Int) - 1)))=some (zP 0 (w*1))) (Qq (W (ni U V a j b S g) rfl) (Qp (W (ni U V a j b S g) rfl) (Qs (zI (↑(w+1):Int)) (Qs (zI (↑(w+1):Int)) (Qn 1)))))))) (by kernel_rfl)
end
section
variable(X:Old)(F:Fw X)(O:Gw X)(B J:AV)(S:List AV)(g:Bool)(Q:Option Nat)(w:Nat)(M:w<=268435456)(L:IntKind.i64.wrap ((↑(w+1):Int) - 1)=(↑w:Int))(R:∀h:AH,h.obj 0= .cells S 57 g false->loadT (E.wo X) h 57 0 (w*1)=some (.ptr 1 0))(V W:Nat)(T U P N:Nat)(K:∀h:AH,loadT (E.wo X) h 25 (OLD+V) (W+3)=some (.aO (some (T,U)) P N))
include X F O B J S g Q w M L R V W T U P N K
theorem PK(c:0<P)(sn:Nat)(cp2:Option Nat)(a:AH)(b:gX (E.wo X) (lD VU (abJ V W) (.cells S 57 g false) (.cells [.ptr (OLD+T) (U+0*4),.aQ] 59 false false)) .append [.sl 0 0 (w+1) Q,.sl 3 0 1 (some 1)] [60,60]=some (.val (.sl sn 0 (w+2) cp2) a)):DR X (ent (E.wo X) 19 [.sl 0 0 (w+1) Q,.sl 3 0 1 (some 1)]) (lD ady (Uz V W) (.cells S 57 g false) (.cells [zP (1152921504606846976+T) (U+0),.aQ] 59 false false)) (.sl sn 0 (w+2) cp2) a:=
 prt F O (Ql 8 b (Qn 3)) (by kernel_rfl)
theorem PI(a j:Nat)(b:Option Nat)(e:j<P)(sn:Nat)(cp2:Option Nat)(c:AH)(d:gX (E.wo X) (lD VU (abI V W a j b) (.cells S 57 g false) (Y8 T U j)) .append [.sl 0 0 (w+1) Q,.sl 3 0 1 (some 1)] [60,60]=some (.val (.sl sn 0 (w+2) cp2) c)):DR X (ent (E.wo X) 19 [.sl 0 0 (w+1) Q,.sl 3 0 1 (some 1)]) (lD ady (Uy V W a j b) (.cells S 57 g false) (.cells [zP (1152921504606846976+T) (U+j*4),.aQ] 59 false false)) (.sl sn 0 (w+2) cp2) c:=
 prt F O (Ql 8 d (Qn 3)) (by kernel_rfl)
end
theorem fq1(old:Old)(F:Fw old)(FF:Gw old)(a:Old)(b q m c:Nat):DS old (lu prog (E.wo a) [.n 1] (X3 (.ptr (OLD+b) 0)) ⟨.e,0,0⟩ (Ya7 q m c)) ⟨.e,0,0⟩ (Cj (.sl 2 0 1 (some 1)) (zP 0 0) .aQ) (dJ (.cells [zP (1152921504606846976+b) 0,.aQ] 59 false false) Ux (.cells [zP 1 0] 57 false false)):=
 qH F FF [2,5,6,7] (Qn 31) (by kernel_rfl)
section
variable(X:Old)(F:Fw X)(M:Gw X)(B N:AV)(S:List AV)(g:Bool)(Q:Option Nat)(w:Nat)(J:w<=268435456)(K:IntKind.i64.wrap ((↑(w+1):Int) - 1)=(↑w:Int))(W:∀h:AH,h.obj 0= .cells S 57 g false->loadT (E.wo X) h 57 0 (w*1)=some (.ptr 1 0))(U V:Nat)(R T P L:Nat)(O:∀h:AH,loadT (E.wo X) h 25 (OLD+U) (V+3)=some (.aO (some (R,T)) P L))
include X F M B N S g Q w J K W U V R T P L O
theorem ahQ(b:0<P)(sn:Nat)(cp2:Option Nat)(a:AH)(c:gX (E.wo X) (lD VU (abJ U V) (.cells S 57 g false) (.cells [.ptr (OLD+R) (T+0*4),.aQ] 59 false false)) .append [.sl 0 0 (w+1) Q,.sl 3 0 1 (some 1)] [60,60]=some (.val (.sl sn 0 (w+2) cp2) a))(d:(decide ((↑(w+1):Int)>0))=true)(f:(decide (0<(↑P:Int)))=true):DS X (Cj (.sl 0 0 (w+1) Q) B N) (Gp U V S g) (Cj (.sl sn 0 (w+2) cp2) B N) a:=
 qH F M [2,5,6,7] (Qb 5 d (Qv 10 (jk (e:=57) (by kernel_rfl) (by kernel_rfl) K (cZ w):aZ (E.wo X) 60 (nP (E.wo X) (.sl 0 0 (w+1) Q)) (zI (IntKind.i64.wrap ((↑(w+1):Int) - 1)))=some (zP 0 (w*1))) (Qv 0 (W (ny U V S g) rfl) (Qv 21 (O (ny U V S g)) (Qb 1 f (Qv 11 (O (ny U V S g)) (Qv 1 (aaI (e:=27) (z:=4) (by kernel_rfl) (by kernel_rfl) rfl b:aZ (E.wo X) 25 (nP (E.wo X) (.aO (some (R,T)) P L)) (zI 0)=some (zP (1152921504606846976+R) (T+0))) (Qk 3 (DoesC.ent M (by kernel_rfl) (PK Y Z X F M B N S g Q w J K W U V R T P L O b sn cp2 a c ):DC X 19 [.sl 0 0 (w+1) Q,.sl 3 0 1 (some 1)] (lD ady (Uz U V) (.cells S 57 g false) (.cells [zP (1152921504606846976+R) (T+0),.aQ] 59 false false)) (.sl sn 0 (w+2) cp2) a) (Qn 4))))))))) (by kernel_rfl)
theorem ahP(a j:Nat)(b:Option Nat)(d:j<P)(sn:Nat)(cp2:Option Nat)(c:AH)(f:gX (E.wo X) (lD VU (abI U V a j b) (.cells S 57 g false) (Y8 R T j)) .append [.sl 0 0 (w+1) Q,.sl 3 0 1 (some 1)] [60,60]=some (.val (.sl sn 0 (w+2) cp2) c))(i:(decide ((↑(w+1):Int)>0))=true)(k:(decide ((↑j:Int)<(↑P:Int)))=true):DS X (Cj (.sl 0 0 (w+1) Q) B N) (Gn U V a j b S g) (Cj (.sl sn 0 (w+2) cp2) B N) c:=
 qH F M [2,5,6,7] (Qb 5 i (Qv 10 (jk (e:=57) (by kernel_rfl) (by kernel_rfl) K (cZ w):aZ (E.wo X) 60 (nP (E.wo X) (.sl 0 0 (w+1) Q)) (zI (IntKind.i64.wrap ((↑(w+1):Int) - 1)))=some (zP 0 (w*1))) (Qv 0 (W (ni U V a j b S g) rfl) (Qv 21 (O (ni U V a j b S g)) (Qb 1 k (Qv 11 (O (ni U V a j b S g)) (Qv 1 (jB (e:=27) (by kernel_rfl) (by kernel_rfl) rfl (by rfl) d:aZ (E.wo X) 25 (nP (E.wo X) (.aO (some (R,T)) P L)) (zI (↑j:Int))=some (zP (1152921504606846976+R) (T+j*4))) (Qk 3 (DoesC.ent M (by kernel_rfl) (PI Y Z X F M B N S g Q w J K W U V R T P L O a j b d sn cp2 c f ):DC X 19 [.sl 0 0 (w+1) Q,.sl 3 0 1 (some 1)] (lD ady (Uy U V a j b) (.cells S 57 g false) (.cells [zP (1152921504606846976+R) (T+j*4),.aQ] 59 false false)) (.sl sn 0 (w+2) cp2) c) (Qn 4))))))))) (by kernel_rfl)
end
section
variable(V:Old)(F:Fw V)(H:Gw V)(B J:AV)(S:List AV)(g:Bool)(Q:Option Nat)(w:Nat)(y:w<=268435456)(D:IntKind.i64.wrap ((↑(w+1):Int) - 1)=(↑w:Int))(R:∀h:AH,h.obj 0= .cells S 57 g false->loadT (E.wo V) h 57 0 (w*1)=some (.ptr 1 0))(W X:Nat)(A:Option (Nat×Nat))(M z:Nat)(C:∀h:AH,loadT (E.wo V) h 25 (OLD+W) (X+3)=some (.aO A M z))(U:List UInt8)(N:Option (Nat×Nat))(P L:Nat)(T:Int)(K:∀h:AH,loadT (E.wo V) h 24 (OLD+W) X=some (l9 U N P L))(O:∀h:AH,loadT (E.wo V) h 3 (OLD+W) (X+2)=some (zI T))(G:gQ (E.wo V) 60 (.sl 0 0 (w+1) Q) none (some (zI (IntKind.i64.wrap ((↑(w+1):Int) - 1)))) none=some (.sl 0 0 w Q))
include V F H B J S g Q w y D R W X A M z C U N P L T K O G
theorem agk(b:List AV)(d:Bool)(a:Option Nat)(i:M<=0)(f:DC V 21 [l9 U N P L] (Gp W X S g) (.agg [.str U,.sl 2 0 P a]) (dJ (abJ W X) (.cells S 57 g false) (xJ b d)))(j:(decide ((↑(w+1):Int)>0))=true)(l:(decide (0<(↑M:Int)))=false):DS V (Cj (.sl 0 0 (w+1) Q) B J) (Gp W X S g) (Ci (.sl 0 0 w Q) B (zP 3 0) J) (lD (.cells [.str U,.sl 2 0 P a,zI T,.aQ] 65 false false) (Uz W X) (.cells S 57 g false) (xJ b d)):=
 qH F H [2,5,6,7,10] (Qb 5 j (Qv 10 (jk (e:=57) (by kernel_rfl) (by kernel_rfl) D (cZ w):aZ (E.wo V) 60 (nP (E.wo V) (.sl 0 0 (w+1) Q)) (zI (IntKind.i64.wrap ((↑(w+1):Int) - 1)))=some (zP 0 (w*1))) (Qv 0 (R (ny W X S g) rfl) (Qv 21 (C (ny W X S g)) (Qb 1 l (Qk 6 (DoesC.ent H (by kernel_rfl) (MP Y Z V F H B J S g Q w y D R W X A M z C U N P L T K O G b d a i f ):DC V 20 [.sl 0 0 (w+1) Q] (ny W X S g) (Ya6 w Q) (ny W X S g)) (Qd 6 [.c,.c,.c,.c,.c,.c,.v (l9 U N P L),.k (.agg [.str U,.sl 2 0 P a]) (dJ (Uz W X) (.cells S 57 g false) (xJ b d)),.c,.c,.c,.c,.c,.c,.v (zI T),.c,.c,.c,.c,.c,.c,.c] (Qq (K (ny W X S g)) (Qp f (Qq (O (dJ (Uz W X) (.cells S 57 g false) (xJ b d))) (Qs .aQ (Qs .aQ (Qp (O (ny W X S g)) (Qp (O (dJ (Uz W X) (.cells S 57 g false) (xJ b d))) (Qs (zP (1152921504606846976+W) X) (Qs (zP (1152921504606846976+W) X) (Qp (K (ny W X S g)) (Qs (zP (1152921504606846976+W) X) Qe)))))))))))))))))) (by kernel_rfl)
theorem agj(b:M<=0)(a:DC V 21 [l9 U N P L] (Gp W X S g) (UR U) (Gp W X S g))(d:(decide ((↑(w+1):Int)>0))=true)(f:(decide (0<(↑M:Int)))=false):DS V (Cj (.sl 0 0 (w+1) Q) B J) (Gp W X S g) (Ci (.sl 0 0 w Q) B (zP 2 0) J) (dJ (Uz W X) (.cells S 57 g false) (.cells [.str U,.aQ,zI T,.aQ] 65 false false)):=
 qH F H [2,5,6,7,10] (Qb 5 d (Qv 10 (jk (e:=57) (by kernel_rfl) (by kernel_rfl) D (cZ w):aZ (E.wo V) 60 (nP (E.wo V) (.sl 0 0 (w+1) Q)) (zI (IntKind.i64.wrap ((↑(w+1):Int) - 1)))=some (zP 0 (w*1))) (Qv 0 (R (ny W X S g) rfl) (Qv 21 (C (ny W X S g)) (Qb 1 f (Qk 6 (DoesC.ent H (by kernel_rfl) (MO Y Z V F H B J S g Q w y D R W X A M z C U N P L T K O G b a ):DC V 20 [.sl 0 0 (w+1) Q] (ny W X S g) (Ya6 w Q) (ny W X S g)) (Qd 6 [.c,.c,.c,.c,.c,.c,.v (l9 U N P L),.k (UR U) (ny W X S g),.c,.c,.c,.c,.c,.c,.v (zI T),.c,.c,.c,.c,.c,.c,.c] (Qq (K (ny W X S g)) (Qp a (Qq (O (ny W X S g)) (Qs .aQ (Qs .aQ (Qp (O (ny W X S g)) (Qp (O (ny W X S g)) (Qs (zP (1152921504606846976+W) X) (Qs (zP (1152921504606846976+W) X) (Qp (K (ny W X S g)) (Qs (zP (1152921504606846976+W) X) Qe)))))))))))))))))) (by kernel_rfl)
theorem agi(a j:Nat)(b:Option Nat)(f:List AV)(i:Bool)(d:Option Nat)(m:M<=j)(l:DC V 21 [l9 U N P L] (Gn W X a j b S g) (.agg [.str U,.sl 2 0 P d]) (dJ (abI W X a j b) (.cells S 57 g false) (xJ f i)))(n:(decide ((↑(w+1):Int)>0))=true)(o:(decide ((↑j:Int)<(↑M:Int)))=false):DS V (Cj (.sl 0 0 (w+1) Q) B J) (Gn W X a j b S g) (Ci (.sl 0 0 w Q) B (zP 3 0) J) (lD (.cells [.str U,.sl 2 0 P d,zI T,.sl a 0 j b] 65 false false) (Uy W X a j b) (.cells S 57 g false) (xJ f i)):=
 qH F H [2,5,6,7,10] (Qb 5 n (Qv 10 (jk (e:=57) (by kernel_rfl) (by kernel_rfl) D (cZ w):aZ (E.wo V) 60 (nP (E.wo V) (.sl 0 0 (w+1) Q)) (zI (IntKind.i64.wrap ((↑(w+1):Int) - 1)))=some (zP 0 (w*1))) (Qv 0 (R (ni W X a j b S g) rfl) (Qv 21 (C (ni W X a j b S g)) (Qb 1 o (Qk 6 (DoesC.ent H (by kernel_rfl) (MN Y Z V F H B J S g Q w y D R W X A M z C U N P L T K O G a j b f i d m l ):DC V 20 [.sl 0 0 (w+1) Q] (ni W X a j b S g) (Ya6 w Q) (ni W X a j b S g)) (Qd 6 [.c,.c,.c,.c,.c,.c,.v (l9 U N P L),.k (.agg [.str U,.sl 2 0 P d]) (dJ (Uy W X a j b) (.cells S 57 g false) (xJ f i)),.c,.c,.c,.c,.c,.c,.v (zI T),.c,.c,.c,.c,.c,.c,.c] (Qq (K (ni W X a j b S g)) (Qp l (Qq (O (dJ (Uy W X a j b) (.cells S 57 g false) (xJ f i))) (Qs (.sl a 0 j b) (Qs (.sl a 0 j b) (Qp (O (ni W X a j b S g)) (Qp (O (dJ (Uy W X a j b) (.cells S 57 g false) (xJ f i))) (Qs (zP (1152921504606846976+W) X) (Qs (zP (1152921504606846976+W) X) (Qp (K (ni W X a j b S g)) (Qs (zP (1152921504606846976+W) X) Qe)))))))))))))))))) (by kernel_rfl)
theorem agh(a j:Nat)(b:Option Nat)(f:M<=j)(d:DC V 21 [l9 U N P L] (Gn W X a j b S g) (UR U) (Gn W X a j b S g))(i:(decide ((↑(w+1):Int)>0))=true)(l:(decide ((↑j:Int)<(↑M:Int)))=false):DS V (Cj (.sl 0 0 (w+1) Q) B J) (Gn W X a j b S g) (Ci (.sl 0 0 w Q) B (zP 2 0) J) (dJ (Uy W X a j b) (.cells S 57 g false) (.cells [.str U,.aQ,zI T,.sl a 0 j b] 65 false false)):=
 qH F H [2,5,6,7,10] (Qb 5 i (Qv 10 (jk (e:=57) (by kernel_rfl) (by kernel_rfl) D (cZ w):aZ (E.wo V) 60 (nP (E.wo V) (.sl 0 0 (w+1) Q)) (zI (IntKind.i64.wrap ((↑(w+1):Int) - 1)))=some (zP 0 (w*1))) (Qv 0 (R (ni W X a j b S g) rfl) (Qv 21 (C (ni W X a j b S g)) (Qb 1 l (Qk 6 (DoesC.ent H (by kernel_rfl) (ML Y Z V F H B J S g Q w y D R W X A M z C U N P L T K O G a j b f d ):DC V 20 [.sl 0 0 (w+1) Q] (ni W X a j b S g) (Ya6 w Q) (ni W X a j b S g)) (Qd 6 [.c,.c,.c,.c,.c,.c,.v (l9 U N P L),.k (UR U) (ni W X a j b S g),.c,.c,.c,.c,.c,.c,.v (zI T),.c,.c,.c,.c,.c,.c,.c] (Qq (K (ni W X a j b S g)) (Qp d (Qq (O (ni W X a j b S g)) (Qs (.sl a 0 j b) (Qs (.sl a 0 j b) (Qp (O (ni W X a j b S g)) (Qp (O (ni W X a j b S g)) (Qs (zP (1152921504606846976+W) X) (Qs (zP (1152921504606846976+W) X) (Qp (K (ni W X a j b S g)) (Qs (zP (1152921504606846976+W) X) Qe)))))))))))))))))) (by kernel_rfl)
end
theorem ahO(old:Old)(F:Fw old)(FF:Gw old)(st:AV)(rel:List UInt8)(pa:Option (Nat×Nat))(na ca:Nat)(rule:Int)(pk:Option (Nat×Nat))(kn kc:Nat):AtCall prog (E.wo old) [.n 5] (Ci st (.ptr 0 0) (.ptr 1 0) (.aQ)) (Y6 (dQ rel pa na ca rule pk kn kc)) 22 [.aQ,kR rel pa na ca rule pk kn kc,.fn 23 [] [zP 0 0]] (Y6 (dQ rel pa na ca rule pk kn kc)):=
 ⟨[],by kernel_rfl,trivial⟩
theorem ahL(old:Old)(F:Fw old)(FF:Gw old)(a:Old)(at0:Int)(st:AV)(rel:List UInt8)(pa:Option (Nat×Nat))(na ca:Nat)(rule:Int)(pk:Option (Nat×Nat))(kn kc:Nat):AtCall prog (E.wo old) [.n 20] (lu prog (E.wo a) [.n 5] (Ci st (.ptr 0 0) (.ptr 1 0) (.aQ)) (Y6 (dQ rel pa na ca rule pk kn kc)) (.gI [zI at0,.bool false])) (Y6 (dQ rel pa na ca rule pk kn kc)) 25 [.aQ,zI at0,.sl 3 0 1 (some 1)] (abC (.cells [zI 0] 3 false false) (dQ rel pa na ca rule pk kn kc) Ux):=
 ⟨[],by kernel_rfl,trivial⟩
theorem ahJ(old:Old)(F:Fw old)(FF:Gw old)(b c:Old)(at0:Int)(d:Nat)(f:Nat)(a:Option Nat)(st:AV)(rel:List UInt8)(pa:Option (Nat×Nat))(na ca:Nat)(rule:Int)(pk:Option (Nat×Nat))(kn kc:Nat)(j k:Nat)(i:Option Nat)(l m:AH)(o:gX (E.wo old) ⟨zN (zL (dQ rel pa na ca rule pk kn kc)) Ux (zO (zL (dQ rel pa na ca rule pk kn kc)) .e),5,0⟩ .append [.aQ,.sl 4 0 1 (some 1)] [31,31]=some (.val (.sl k 0 j i) l))(q:fE l 0 0 [.sl k 0 j i]=some m):DS old (lu prog (E.wo c) [.n 20] (lu prog (E.wo b) [.n 5] (Ci st (.ptr 0 0) (.ptr 1 0) (.aQ)) (Y6 (dQ rel pa na ca rule pk kn kc)) (.gI [zI at0,.bool false])) (Y6 (dQ rel pa na ca rule pk kn kc)) (.sl d 0 f a)) ⟨zN (zL (dQ rel pa na ca rule pk kn kc)) Ux .e,4,0⟩ (Oe st (zI at0) (zP 0 0) (.sl d 0 f a)) ⟨zN (zN .e (dQ rel pa na ca rule pk kn kc) (zL (.cells [.str rel,.aO pa na ca,zI rule,.aO pk kn kc] 65 true false))) (.cells [.sl 5 0 1 none] 31 false false) (zO (zL (dQ rel pa na ca rule pk kn kc)) .e),6,0⟩:=
 qH F FF [2,5,6,7,11] (Qn 9) (by kernel_rfl)
theorem ahN(old:Old)(F:Fw old)(FF:Gw old)(st:AV)(rel:List UInt8)(pa:Option (Nat×Nat))(na ca:Nat)(rule:Int)(pk:Option (Nat×Nat))(kn kc:Nat)(on b sn:Nat)(a scp:Option Nat)(c:List AV)(d:Bool):AtCall prog (E.wo old) [.n 5] (Ci st (.ptr 0 0) (.ptr 1 0) (.sl b 0 sn scp)) (dJ (dQ rel pa na ca rule pk kn kc) (P7 on a) (.cells c 65 d false)) 22 [.sl b 0 sn scp,kR rel pa na ca rule pk kn kc,.fn 23 [] [zP 0 0]] (dJ (dQ rel pa na ca rule pk kn kc) (.cells [.sl 2 0 on a] 31 false false) (.cells c 65 d false)):=
 ⟨[],by kernel_rfl,trivial⟩
theorem ahM(old:Old)(F:Fw old)(FF:Gw old)(b:Old)(at0:Int)(st:AV)(rel:List UInt8)(pa:Option (Nat×Nat))(na ca:Nat)(rule:Int)(pk:Option (Nat×Nat))(kn kc:Nat)(on e sn:Nat)(a scp:Option Nat)(c:List AV)(d:Bool):DS old (lu prog (E.wo b) [.n 5] (Ci st (.ptr 0 0) (.ptr 1 0) (.sl e 0 sn scp)) (dJ (dQ rel pa na ca rule pk kn kc) (P7 on a) (.cells c 65 d false)) (.gI [zI at0,.bool true])) (dJ (dQ rel pa na ca rule pk kn kc) (P7 on a) (.cells c 65 d false)) (Oe st (zI at0) (zP 0 0) (.sl e 0 sn scp)) (dJ (dQ rel pa na ca rule pk kn kc) (.cells [.sl 2 0 on a] 31 false false) (.cells c 65 d false)):=
 qH F FF [2,5,6,7,11] (Qn 14) (by kernel_rfl)
theorem ahK(old:Old)(F:Fw old)(FF:Gw old)(b:Old)(at0:Int)(st:AV)(rel:List UInt8)(pa:Option (Nat×Nat))(na ca:Nat)(rule:Int)(pk:Option (Nat×Nat))(kn kc:Nat)(on e sn:Nat)(a scp:Option Nat)(c:List AV)(d:Bool):AtCall prog (E.wo old) [.n 20] (lu prog (E.wo b) [.n 5] (Ci st (.ptr 0 0) (.ptr 1 0) (.sl e 0 sn scp)) (dJ (dQ rel pa na ca rule pk kn kc) (P7 on a) (.cells c 65 d false)) (.gI [zI at0,.bool false])) (dJ (dQ rel pa na ca rule pk kn kc) (P7 on a) (.cells c 65 d false)) 25 [.sl e 0 sn scp,zI at0,.sl 3 0 1 (some 1)] (lD (VW on) (dQ rel pa na ca rule pk kn kc) (.cells [.sl 2 0 on a] 31 false false) (.cells c 65 d false)):=
 ⟨[],by kernel_rfl,trivial⟩
theorem ahI(old:Old)(F:Fw old)(FF:Gw old)(d f:Old)(at0:Int)(i:Nat)(j:Nat)(b:Option Nat)(st:AV)(rel:List UInt8)(pa:Option (Nat×Nat))(na ca:Nat)(rule:Int)(pk:Option (Nat×Nat))(kn kc:Nat)(on s sn:Nat)(a scp:Option Nat)(k:List AV)(l:Bool)(m o:Nat)(c:Option Nat)(q r:AH)(t:gX (E.wo old) ⟨zN (zL (dQ rel pa na ca rule pk kn kc)) (P7 on a) (zN (zL (dQ rel pa na ca rule pk kn kc)) (.cells k 65 l false) .e),5,0⟩ .append [.sl 2 0 on a,.sl 4 0 1 (some 1)] [31,31]=some (.val (.sl o 0 m c) q))(u:fE q 0 0 [.sl o 0 m c]=some r):DS old (lu prog (E.wo f) [.n 20] (lu prog (E.wo d) [.n 5] (Ci st (.ptr 0 0) (.ptr 1 0) (.sl s 0 sn scp)) (dJ (dQ rel pa na ca rule pk kn kc) (P7 on a) (.cells k 65 l false)) (.gI [zI at0,.bool false])) (dJ (dQ rel pa na ca rule pk kn kc) (P7 on a) (.cells k 65 l false)) (.sl i 0 j b)) ⟨zN (zL (dQ rel pa na ca rule pk kn kc)) (P7 on a) (zL (.cells k 65 l false)),4,0⟩ (Oe st (zI at0) (zP 0 0) (.sl i 0 j b)) r:=
 qH F FF [2,5,6,7,11] (Ql 6 t (Ql 0 (CQ (by kernel_rfl) rfl rfl u:jH (E.wo old) q 31 (zP 0 0) (.sl o 0 m c)=some (.val (.gI []) r)) (Qn 1))) (by kernel_rfl)
section
variable(X:Old)(F:Fw X)(J:Gw X)(B p:AV)(S R:List AV)(g T:Bool)(O U:Option Nat)(w N:Nat)(H:w<=268435456)(K:IntKind.i64.wrap ((↑(w+1):Int) - 1)=(↑w:Int))(Q:∀h:AH,h.obj 0= .cells S 57 g false->loadT (E.wo X) h 57 0 (w*1)=some (.ptr 1 0))(P:Int)(x:Nat)(L:P=(↑x:Int))(M:x<N)(W:Int)(V:∀h:AH,h.obj 2= .cells R 3 T false->loadT (E.wo X) h 3 2 (x*1)=some (zI W))
include X F J B p S R g T O U w N H K Q P x L M W V
theorem ahH(b d:Nat)(a:Option Nat)(f i:AH)(k:gX (E.wo X) ⟨zN (zL (abH p)) (.cells S 57 g false) (zN (zL (iV W)) (.cells R 3 T false) .e),5,0⟩ .append [.aQ,.sl 4 0 1 (some 1)] [56,56]=some (.val (.sl d 0 b a) f))(l:fE f 1 1 [.sl d 0 b a]=some i)(j:(decide ((↑(w+1):Int)>0))=true):DS X (Oe (.sl 0 0 (w+1) O) (zI P) B (.sl 2 0 N U)) ⟨zN (zL (abH p)) (.cells S 57 g false) (zL (.cells R 3 T false)),4,0⟩ (Cj (.sl 0 0 (w+1) O) B (.sl 2 0 N U)) ⟨zN (zN .e (.cells [p,.sl 5 0 1 none] 59 false false) (zL (.cells [zI W] 3 true false))) (.cells S 57 g false) (zN (zL (iV W)) (.cells R 3 T false) .e),6,0⟩:=
 qH F J [2,5,6,7] (Qb 4 j (Qv 8 (jk (e:=57) (by kernel_rfl) (by kernel_rfl) K (cZ w):aZ (E.wo X) 60 (nP (E.wo X) (.sl 0 0 (w+1) O)) (zI (IntKind.i64.wrap ((↑(w+1):Int) - 1)))=some (zP 0 (w*1))) (Qv 0 (Q ⟨zN (zL (abH p)) (.cells S 57 g false) (zL (.cells R 3 T false)),4,0⟩ rfl) (Qd 2 [.c,.c,.c,.c,.c,.c,.c,.v (zP 2 (x*1)),.v (zI W),.c,.c,.c,.c,.c] (Qq (wE X 2 U L M) (Qq (V ⟨zN (zL (abH p)) (.cells S 57 g false) (zL (.cells R 3 T false)),4,0⟩ rfl) (Qp (V ⟨zN (zL (abH p)) (.cells S 57 g false) (zL (.cells R 3 T false)),4,0⟩ rfl) (Qs .aQ (Qn 2))))))))) (by kernel_rfl)
theorem ahG(d:List AV)(f:Bool)(j:Nat)(b:Option Nat)(i k:Nat)(a:Option Nat)(m n:AH)(o:gX (E.wo X) (xG (.cells d 3 f false) (.cells [p,.sl 3 0 j b] 59 false false) (.cells S 57 g false) (iV W) (.cells R 3 T false)) .append [.sl 3 0 j b,.sl 4 0 1 (some 1)] [56,56]=some (.val (.sl k 0 i a) m))(q:fE m 1 1 [.sl k 0 i a]=some n)(r:(decide ((↑(w+1):Int)>0))=true):DS X (Oe (.sl 0 0 (w+1) O) (zI P) B (.sl 2 0 N U)) (lD (.cells d 3 f false) (.cells [p,.sl 3 0 j b] 59 false false) (.cells S 57 g false) (.cells R 3 T false)) (Cj (.sl 0 0 (w+1) O) B (.sl 2 0 N U)) n:=
 qH F J [2,5,6,7] (Qb 4 r (Qv 8 (jk (e:=57) (by kernel_rfl) (by kernel_rfl) K (cZ w):aZ (E.wo X) 60 (nP (E.wo X) (.sl 0 0 (w+1) O)) (zI (IntKind.i64.wrap ((↑(w+1):Int) - 1)))=some (zP 0 (w*1))) (Qv 0 (Q (lD (.cells d 3 f false) (.cells [p,.sl 3 0 j b] 59 false false) (.cells S 57 g false) (.cells R 3 T false)) rfl) (Qd 2 [.c,.c,.c,.c,.c,.c,.c,.v (zP 2 (x*1)),.v (zI W),.c,.l (.sl k 0 i a) m,.c,.c,.l (.gI []) n] (Qq (wE X 2 U L M) (Qq (V (lD (.cells d 3 f false) (.cells [p,.sl 3 0 j b] 59 false false) (.cells S 57 g false) (.cells R 3 T false)) rfl) (Qz (Qp o (Qz (Qp (CQ (by kernel_rfl) rfl rfl q:jH (E.wo X) m 56 (zP 1 1) (.sl k 0 i a)=some (.val (.gI []) n)) (Qp (V (lD (.cells d 3 f false) (.cells [p,.sl 3 0 j b] 59 false false) (.cells S 57 g false) (.cells R 3 T false)) rfl) (Qs (.sl 3 0 j b) (Qn 2))))))))))))) (by kernel_rfl)
end
theorem fq9(old:Old)(F:Fw old)(FF:Gw old)(at0:Int)(b sn:Nat)(scp cp:Option Nat)(ob on a:Nat)(c:Nat):DR old (Oe (.sl c 0 0 cp) (zI at0) (.ptr 0 0) (.sl b 0 sn scp)) (je (.cells [.aO (some (ob,0)) on a] 31 false false)) (.aO (some (ob,0)) on a) (je (.cells [.aO (some (ob,0)) on a] 31 false false)):=
 prt F FF (Qn 25) (by kernel_rfl)
end
end Go.Ev
