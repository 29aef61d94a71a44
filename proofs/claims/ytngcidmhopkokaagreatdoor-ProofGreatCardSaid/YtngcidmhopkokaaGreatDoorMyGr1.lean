/- A part of the proof that ProofGreat returns true. -/
import Derived.Test.YtngcidmhopkokaaGreatDoorMyEv4
import Derived.Test.YtngcidmhopkokaaGreatDoorMyEv5
import Derived.Test.YtngcidmhopkokaaGreatDoorMyStates
set_option linter.all false
namespace Go.Ev
open Go.Proofs Go.Proofs.Tryz
set_option maxRecDepth 100000
section
variable{cs:List AV}{n sz:Nat}{old old':Old}{v:AV}
structure PV where
 k:Int
 m:Int
 s:List UInt8
def PV.cells(v:PV):List AV:=[.int .i64 v.k,.int .i64 v.m,.str v.s]
def fD(l:List PV):List AV:=l.flatMap PV.cells
theorem H7:∀l:List PV,(fD l).length=l.length*3
 |[]=>rfl
 |v::l=>by
  show(PV.cells v++fD l).length=_;rw[fF,H7 l];simp[PV.cells];omega
theorem gY:∀(l:List PV),∀a∈fD l,AV.low 0 a=true
 |[],a,h=>by cases h
 |v::l,a,h=>by
  rcases bF.1 (show a∈PV.cells v++fD l from h)with h|h
  .simp only[PV.cells,ay,aB,bn]at h
   rcases h with rfl|rfl|rfl<;>rfl
  .exact gY l a h
def vv(old:Old)(v:AV)(n sz:Nat)(cs:List AV):Prop:=
 (∃b o c,v= .aO (some (b,o)) n c∧iI old b o (n*sz)=some cs)∨(v= .aO none 0 0∧n=0∧cs=[])
def iM(old:Old)(v:AV)(l:List PV):Prop:=vv old v l.length 3 (fD l)
theorem mE{old old':Old}(h:Old.le old old'){b:Nat}:∀{n o:Nat} {cs:List AV},iI old b o n=some cs->iI old' b o n=some cs
 |0,o,cs,e=>e
 |n+1,o,cs,e=>by
  unfold iI at e ⊢;cases h1:old b o with
  |none=>rw[h1]at e;cases e
  |some v=>
   cases a:iI old b (o+1) n with
   |none=>rw[h1,a]at e;cases e
   |some r=>
    rw[h1,a]at e;rw[h b o v h1,mE h a];exact e
theorem F7{old:Old}{b:Nat}:∀{cs:List AV} {o:Nat},(∀i a,cs[i]? =some a->old b (o+i)=some a)->iI old b o cs.length=some cs
 |[],_,_=>rfl
 |v::cs,o,h=>by
  have h0:=h 0 v rfl;have h1:=F7 (cs:=cs) (o:=o+1) λi a e=>by
   have:=h (i+1) a (by simpa using e);rw[show o+1+i=o+(i+1)by omega];exact this
  show iI old b o (cs.length+1)=_;unfold iI;rw[show o+0=o from rfl]at h0;rw[h0,h1]
theorem rG{old:Old}{b:Nat}:∀{k n o:Nat} {cs:List AV},iI old b o (k+n)=some cs->∃a c,cs=a++c∧a.length=k∧iI old b o k=some a∧iI old b (o+k) n=some c
 |0,n,o,cs,e=>⟨[],cs,rfl,rfl,rfl,by rw[gF]at e;exact e⟩
 |k+1,n,o,cs,e=>by
  rw[show k+1+n=(k+n)+1 by omega]at e;unfold iI at e;cases h1:old b o with
  |none=>rw[h1]at e;cases e
  |some v=>
   cases d:iI old b (o+1) (k+n)with
   |none=>rw[h1,d]at e;cases e
   |some r=>
    rw[h1,d]at e;cases e;obtain⟨a,c,rfl,f,g,h⟩:=rG d;refine⟨v::a,c,rfl,by simp[f],?_,by rw[show o+(k+1)=o+1+k by omega];exact h⟩;unfold iI;rw[h1,g]
theorem vv.mono(h:Old.le old old')(H:vv old v n sz cs):vv old' v n sz cs:=
 H.imp (λ⟨b,o,c,e,x⟩=>⟨b,o,c,e,mE h x⟩) id
theorem iM.mono{old old':Old}(h:Old.le old old'){v:AV}{l:List PV}(H:iM old v l):iM old' v l:=vv.mono h H
theorem iM.shape{l:List PV}(H:iM old v l):∃a n c,v= .aO a n c:=by
 rcases H with⟨b,o,c,rfl,_⟩|⟨rfl,_⟩
 .exact⟨_,_,_,rfl⟩
 .exact⟨_,_,_,rfl⟩
theorem kU{n:Nat}:∀{l:List AV},(∀a∈l,AV.low n a=true)->AV.dX n l=true
 |[],_=>rfl
 |x::l,h=>by
  unfold AV.dX;rw[h x (bK ..),kU λa b=>h a (bg _ b)];rfl
theorem qh.nil{P:Program}{E:Env}{old:Old}{h:AH}{Q:Old->AV->Prop}(a:Q old (.aO none 0 0)):qh P E old h .aM Q:=λK ι w u b S R=>
 ⟨K,old,.aO none 0 0,Fz.refl K,b,Old.le_refl _,a,S.bare,by unfold RV at R ⊢;exact⟨none,R,ah _,λ_=>⟨rfl,rfl⟩,λ_=>rfl⟩⟩
end
section
variable{cs:List AV}{old:Old}
inductive T where
 |node (rel:List UInt8) (args:List PV) (rule:Int) (kids:List T)
mutual
def T.size:T->Nat
 | .node _ _ _ ks=>gP ks+1
def gP:List T->Nat
 |[]=>0
 |t::l=>t.size+gP l
end
def T.kids:T->List T| .node _ _ _ ks=>ks
def T.rule:T->Int| .node _ _ r _=>r
def T.rel:T->List UInt8| .node s _ _ _=>s
def T.args:T->List PV| .node _ a _ _=>a
inductive ny(old:Old):List AV->List T->Prop
 |nil:ny old [] []
 |cons {rel:List UInt8} {args:List PV} {rule:Int} {kids:List T} {a k:AV} {ks cs:List AV} {l:List T}:iM old a args->vv old k kids.length 4 ks->ny old ks kids->ny old cs l->ny old (.str rel::a:: .int .i64 rule::k::cs) (.node rel args rule kids::l)
theorem ny.len{l:List T}(h:ny old cs l):cs.length=l.length*4:=by
 induction h with
 |nil=>rfl
 |cons _ _ _ _ _ a=>simp[a];omega
theorem ny.mono{old old':Old}(h:Old.le old old'){cs:List AV}{l:List T}(H:ny old cs l):ny old' cs l:=by
 induction H with
 |nil=>exact .nil
 |cons a b _ _ c d=>exact .cons (iM.mono h a) (vv.mono h b) c d
theorem ny.app{ds:List AV}{l m:List T}(h:ny old cs l)(H:ny old ds m):ny old (cs++ds) (l++m):=by
 induction h with
 |nil=>exact H
 |cons a b c _ _ d=>exact .cons a b c d
def wI(old:Old)(v:AV)(t:T):Prop:=∃cs,v= .agg cs∧ny old cs [t]
end
section
open Go.Conc (G)
variable{b:Nat}
theorem dW{z:Int}(h: -4611686018427387904<=z)(h':z<=4611686018427387904):IntKind.i64.wrap z=z:=by
 unfold IntKind.wrap;simp[IntKind.signed,IntKind.bits];omega
theorem wrapN{i:Nat}(h:i<=4611686018427387000):IntKind.i64.wrap ((↑i:Int)+1)=(↑(i+1):Int):=by rw[dW (by omega) (by omega)];omega
mutual
theorem AV.Ng{n:Nat}:∀{a:AV},AV.low 0 a=true->AV.low n a=true
 | .ptr i _,h=>by
   have h:(Nat.blt i 0||Nat.ble OLD i)=true:=h;show(Nat.blt i n||Nat.ble OLD i)=true;rw[show Nat.blt i 0=false by cases c:Nat.blt i 0 with |false=>rfl|true=>rw[cO]at c;omega]at h;rw[show Nat.ble OLD i=true from h,jm]
 | .sl i _ _ _,h=>by
   have h:(Nat.blt i 0||Nat.ble OLD i)=true:=h;show(Nat.blt i n||Nat.ble OLD i)=true;rw[show Nat.blt i 0=false by cases c:Nat.blt i 0 with |false=>rfl|true=>rw[cO]at c;omega]at h;rw[show Nat.ble OLD i=true from h,jm]
 | .map i,h=>by
   have h:(Nat.blt i 0||Nat.ble OLD i)=true:=h;show(Nat.blt i n||Nat.ble OLD i)=true;rw[show Nat.blt i 0=false by cases c:Nat.blt i 0 with |false=>rfl|true=>rw[cO]at c;omega]at h;rw[show Nat.ble OLD i=true from h,jm]
 | .yield i,h=>by
   have h:(Nat.blt i 0||Nat.ble OLD i)=true:=h;show(Nat.blt i n||Nat.ble OLD i)=true;rw[show Nat.blt i 0=false by cases c:Nat.blt i 0 with |false=>rfl|true=>rw[cO]at c;omega]at h;rw[show Nat.ble OLD i=true from h,jm]
 | .fn _ a b,h=>by
   have h:(AV.dX 0 a&&AV.dX 0 b)=true:=h;rw[av]at h;show(AV.dX n a&&AV.dX n b)=true;rw[AV.qK h.1,AV.qK h.2];rfl
 | .iface _ v,h=>AV.Ng (a:=v) h
 | .agg l,h=>AV.qK (l:=l) h
 | .bV l,h=>AV.qK (l:=l) h
 | .any,_| .one,_| .bool _,_| .int _ _,_| .str _,_| .nQ,_| .aM,_| .emp,_| .aO _ _ _,_| .nT,_| .sD,_| .kH,_=>rfl
theorem AV.qK{n:Nat}:∀{l:List AV},AV.dX 0 l=true->AV.dX n l=true
 |[],_=>rfl
 |a::l,h=>by
  have h:(AV.low 0 a&&AV.dX 0 l)=true:=h;rw[av]at h;show(AV.low n a&&AV.dX n l)=true;rw[AV.Ng h.1,AV.qK h.2];rfl
end
theorem qJ{n:Nat}:∀{l m:List AV},AV.dX n l=true->AV.dX n m=true->AV.dX n (l++m)=true
 |[],m,_,h=>h
 |a::l,m,h,h'=>by
  have h:(AV.low n a&&AV.dX n l)=true:=h;rw[av]at h;show(AV.low n a&&AV.dX n (l++m))=true;rw[h.1,qJ h.2 h'];rfl
theorem GZ{n:Nat}{z:List AV}(h:AV.dX n z=true):∀m,AV.dX n (rep m z)=true
 |0=>rfl
 |m+1=>qJ h (GZ h m)
theorem nU{n:Nat}:∀{l:List AV},AV.dX n l=true->∀a∈l,AV.low n a=true
 |[],_,a,h=>by cases h
 |b::l,h,a,c=>by
  have h:(AV.low n b&&AV.dX n l)=true:=h;rw[av]at h;rcases ay.1 c with rfl|c
  .exact h.1
  .exact nU h.2 a c
section
variable{P:Program}{E:Env}{Z:Old}{f:AF}{h Y:AH}{v:AV}{Q:Old->AV->Prop}
theorem bO.does(D:Does P (E.wo Z) f h v Y)(l:Y.nx<=OLD)(m:Y.df=0)(O:qh P E Z Y v Q):bO P E Z f h Q:=λK ι w fr c a i S R n j=>by
 refine(D.2 K ι w fr c a i S R (λk=>by rw[j]at k;cases k) (n.sub (ah _) l)).mono ?_
 rintro d g w' ⟨ι',u,rfl,y,o,p,rfl⟩
 obtain⟨q,b,v2,r,s,l2,t,x,e⟩:=O K ι' w' u i o p;rw[j];exact⟨q,b,v2,u,rfl,r,s,l2,t,e,x,m⟩
end
theorem know{old:Old}{vs:List AV}(h:∀o a,vs[o]? =some a->old b o=some a):iI old b 0 vs.length=some vs:=
 F7 λi a e=>by rw[gF];exact h i a e
theorem oJ{old:Old}{b c:Nat}{l:List PV}(h:∀o a,(fD l)[o]? =some a->old b o=some a):iM old (.aO (some (b,0)) l.length c) l:=
 .inl ⟨b,0,c,rfl,by rw[← H7];exact know h⟩
end
section
variable{α:Type}{E:Env}{h h':AH}{id n off:Nat}{t:TypeId}{v:AV}
theorem set_mid(A:List α)(x y:α)(R:List α):(A++x::R).set A.length y=A++y::R:=by simp
theorem nK(A:List α)(x:α)(R:List α):(A++x::R)[A.length]? =some x:=by simp
theorem ZN{enc:α->List AV}(h:∀x,∀a∈enc x,AV.low n a=true)(l:List α):AV.dX n (l.flatMap enc)=true:=
 kU λa b=>by
  obtain⟨x,_,c⟩:=oQ.1 b;exact h x a c
theorem F4(b:(E.tt.get t).map (·.size)=some 1){v:Int}(c:dD h id off [zI v]=some h'):fU E h t (zP id off) (zI v)=some (.val gH h'):=by
 obtain⟨ti,d,a⟩:=aN.1 b;unfold fU;rw[d];show cond false none (cond (Nat.beq 1 ti.size) ((dD h id off [zI v]).map λh'=>OR.val gH h') none)=_;have a:ti.size=1:=a;rw[a,c];rfl
theorem F3(b:(E.tt.get t).map (·.size)=some 1)(c:v.isAny=false)(d:v.cells=[v])(e:dD h id off [v]=some h'):fU E h t (zP id off) v=some (.val gH h'):=by
 obtain⟨ti,f,a⟩:=aN.1 b;unfold fU;rw[f];show cond v.isAny none (cond (Nat.beq v.cells.length ti.size) ((dD h id off v.cells).map λh'=>OR.val gH h') none)=_;have a:ti.size=1:=a;rw[a,c,d,e];rfl
open Go.Conc (G)
theorem dU.mono{P:Program}{E:Env}{old:Old}{g:FuncId}{args:List AV}{Q f:Old->AV->Prop}(A:dU P E old g args Q)(h:∀old' v,Old.le old old'->Q old' v->f old' v):dU P E old g args f:=λK w vs c e i S j=>
 (A K w vs c e i S j).mono λd g w ⟨k,m,v,u,a,b,p,l,q,r⟩=>⟨k,m,v,u,a,b,p,l,h _ _ l q,r⟩
end
section
variable{b i id off:Nat}{el t:TypeId}{z:Bool}
theorem ny.at{old:Old}{b:Nat}:∀{cs:List AV} {l:List T} {o:Nat},ny old cs l->iI old b o (l.length*4)=some cs->∀{j:Nat} {t:T},l[j]? =some t->∃c,iI old b (o+j*4) 4=some c∧ny old c [t]
 |_,_,o,.nil,h,j,t,hj=>by cases hj
 |_,_,o,.cons (rel:=rel) (args:=args) (rule:=rule) (kids:=kids) (a:=a) (k:=k) (ks:=ks) (cs:=cs) (l:=l) h1 d g i,h,j,t,hj=>by
  rw[gI,kF,Nat.one_mul,Nat.add_comm (l.length*4) 4]at h;obtain⟨m,n,e,p,e1,e2⟩:=rG h;obtain⟨q,r⟩:=List.append_inj (s₁:=[AV.str rel,a,.int .i64 rule,k]) (t₁:=cs) (s₂:=m) (t₂:=n) e (by rw[p];rfl);subst q;subst r;cases j with
  |zero=>
   cases hj;exact⟨_,by rw[jJ,Nat.add_zero];exact e1,.cons h1 d g .nil⟩
  |succ j=>
   obtain⟨c,k1,s⟩:=ny.at i e2 (j:=j) (by simpa using hj);exact⟨c,by rw[show o+(j+1)*4=o+4+j*4 by omega];exact k1,s⟩
def tq(old:Old)(p:AV)(t:T):Prop:=∃b o cs,p= .ptr (OLD+b) o∧iI old b o 4=some cs∧ny old cs [t]
theorem tq.mono{old old':Old}(h:Old.le old old'){p:AV}{t:T}(H:tq old p t):tq old' p t:=by
 obtain⟨b,o,cs,h1,a,c⟩:=H;exact⟨b,o,cs,h1,mE h a,c.mono h⟩
theorem tq.low{old:Old}{p:AV}{t:T}(H:tq old p t):AV.low 0 p=true:=by
 obtain⟨b,o,cs,rfl,_⟩:=H;show(Nat.blt (OLD+b) 0||Nat.ble OLD (OLD+b))=true;rw[aW (dZ _ _),jm]
theorem ny.one{old:Old}{cs:List AV}{t:T}(h:ny old cs [t]):∃a d i ks,cs=[.str t.rel,a,.int .i64 t.rule,.aO d t.kids.length i]∧iM old a t.args∧ny old ks t.kids∧((t.kids=[]∧d=none)∨∃e ok,d=some (e,ok)∧iI old e ok (t.kids.length*4)=some ks):=by
 cases h with
 |cons h1 j g k=>
  cases k;rcases j with⟨b,o,c,rfl,l⟩|⟨rfl,h0,_⟩
  .exact⟨_,some (b,o),c,_,rfl,h1,g,.inr ⟨b,o,rfl,l⟩⟩
  .have:=bB.1 h0
   subst this;exact⟨_,none,0,_,rfl,h1,g,.inl ⟨rfl,rfl⟩⟩
theorem iY{old:Old}{b o n:Nat}{r:List AV}(h:iI old b o n=some r){j:Nat}{a:AV}(hj:r[j]? =some a):old b (o+j)=some a:=(Aa n o h).2 j a hj
theorem lD{E:Env}{h:AH}(c:(E.tt.get t).map (·.isAgg)=some false)(b:Nat.ble OLD id=false){vs:List AV}{g:Bool}(d:h.obj id= .cells vs el g z){a:AV}(e:vs[off]? =some a):loadT E h t id off=some a:=by
 obtain⟨ti,i,j⟩:=aN.1 c;unfold loadT;rw[i];show cond ti.isAgg _ (cond (Nat.ble OLD id) _ (match h.obj id with | .cells vs _ _ _=>vs[off]? |_=>none))=_;rw[j,b,d];exact e
theorem gB{E:Env}{h:AH}(c:(E.tt.get t).map (·.isAgg)=some false){a:AV}(d:E.old b off=some a):loadT E h t (OLD+b) off=some a:=by
 obtain⟨ti,e,g⟩:=aN.1 c;exact I5 e g d
mutual
theorem AV.uF{ρ:Nat->Nat}(d:∀i,OLD<=i->ρ i=i):∀{a:AV},AV.low 0 a=true->a.ren ρ=a
 | .ptr i o,h=>by
   have h:(Nat.blt i 0||Nat.ble OLD i)=true:=h;rw[show Nat.blt i 0=false by cases e:Nat.blt i 0 with |false=>rfl|true=>rw[cO]at e;omega]at h;show AV.ptr (ρ i) o=_;rw[d i (aF h)]
 | .sl i o l c,h=>by
   have h:(Nat.blt i 0||Nat.ble OLD i)=true:=h;rw[show Nat.blt i 0=false by cases e:Nat.blt i 0 with |false=>rfl|true=>rw[cO]at e;omega]at h;show AV.sl (ρ i) o l c=_;rw[d i (aF h)]
 | .map i,h=>by
   have h:(Nat.blt i 0||Nat.ble OLD i)=true:=h;rw[show Nat.blt i 0=false by cases e:Nat.blt i 0 with |false=>rfl|true=>rw[cO]at e;omega]at h;show AV.map (ρ i)=_;rw[d i (aF h)]
 | .yield i,h=>by
   have h:(Nat.blt i 0||Nat.ble OLD i)=true:=h;rw[show Nat.blt i 0=false by cases e:Nat.blt i 0 with |false=>rfl|true=>rw[cO]at e;omega]at h;show AV.yield (ρ i)=_;rw[d i (aF h)]
 | .fn f a b,h=>by
   have h:(AV.dX 0 a&&AV.dX 0 b)=true:=h;rw[av]at h;show AV.fn f (AV.jC ρ a) (AV.jC ρ b)=_;rw[AV.kZ d h.1,AV.kZ d h.2]
 | .iface t v,h=>by
   show AV.iface t (v.ren ρ)=_;rw[AV.uF d (a:=v) h]
 | .agg l,h=>by
   show AV.agg (AV.jC ρ l)=_;rw[AV.kZ d (l:=l) h]
 | .bV l,h=>by
   show AV.bV (AV.jC ρ l)=_;rw[AV.kZ d (l:=l) h]
 | .any,_| .one,_| .bool _,_| .int _ _,_| .str _,_| .nQ,_| .aM,_| .emp,_| .aO _ _ _,_| .nT,_| .sD,_| .kH,_=>rfl
theorem AV.kZ{ρ:Nat->Nat}(b:∀i,OLD<=i->ρ i=i):∀{l:List AV},AV.dX 0 l=true->AV.jC ρ l=l
 |[],_=>rfl
 |a::l,h=>by
  have h:(AV.low 0 a&&AV.dX 0 l)=true:=h;rw[av]at h;show a.ren ρ::AV.jC ρ l=_;rw[AV.uF b h.1,AV.kZ b h.2]
end
theorem qC{k:Nat}(h:OLD<=i):yG k i=i:=by
 cases i with
 |zero=>exact aP h (by decide)
 |succ i=>rfl
section
variable{P:Program}{E:Env}{Z:Old}{f f':AF}{h:AH}{Q:Old->AV->Prop}
theorem bO.only{k:Nat}{vs:List AV}{el:TypeId}{g z:Bool}(B:bO P E Z f' ⟨zL (.cells vs el g z),1,0⟩ Q)(b:h.df=0)(e:f=f'.ren (yG k))(a:f'.low 1)(c:AV.dX 0 vs=true)(d:h.tr.get k=some (.cells vs el g z)):bO P E Z f h Q:=by
 refine bO.ren (ρ:=yG k) B b.symm e a (by show(true&&AV.dX 1 vs&&true)=true;rw[AV.qK c];rfl) (λi j hi hj _=>by have hi:i<1:=hi;have hj:j<1:=hj;omega) (λi o e _=>?_) (λi hi=>qC hi);obtain⟨rfl,rfl⟩:=pW e;exact⟨jy,by
  show h.tr.get k=some (.cells (AV.jC (yG k) vs) el g z);rw[AV.kZ (λi hi=>qC hi) c];exact d⟩
end
end
theorem vR{E:Env}{h:AH}{ts tx e:TypeId}{sz:Nat}(b:FN E ts tx=some (e,sz)){id len id2 off2:Nat}{cc:Option Nat}{vs cs:List AV}(d:jw E h id 0 (len*sz)=some vs)(g:len<=134217728)(f:jw E h id2 off2 (1*sz)=some cs):
 jv E h .append [.sl id 0 len (some len),.sl id2 off2 1 cc] [ts,tx]=some (.val (.sl h.nx 0 (len+1) none) (h.new (.cells (vs++cs) e true false))):=by
 show(nM E h ts tx (.sl id 0 len (some len)) (.sl id2 off2 1 cc)).map _=_;rw[rO b (n:=1) (c:=cs) (by show(jw E h id2 off2 (1*sz)).map (λc=>(1,c))=_;rw[f];rfl) (by omega)];unfold Oi;simp only;rw[show Nat.ble (len+1) len=false from by
  cases a:Nat.ble (len+1) len with
  |false=>rfl
  |true=>have:=aF a;omega]
 simp only[bC];rw[show Nat.blt 268435456 (len+len)=false from by
  cases a:Nat.blt 268435456 (len+len)with
  |false=>rfl
  |true=>rw[cO]at a;omega]
 simp only[bC];rw[d];rfl
theorem zR(l:List AV):takeN l 0 l.length=some l:=by
 unfold takeN;simp only[fP,List.take_length,Nat.beq_refl,bA]
def Bc(a:Option Nat)(g:Bool)(m:Nat):Prop:=(a=none∧g=true)∨(a=some m∧g=false)
theorem Xx{E:Env}{ts e:TypeId}(b:FN E ts ts=some (e,1)){ps:List AV}{p:AV}{m:Nat}{c:Option Nat}{g:Bool}(hr:Bc c g m)(d:ps.length=m)(f:m<=134217728)(hp:lu [p]=true):
 ∃a,jv E ⟨zN (zL (.cells [p] e false false)) (.cells ps e g false) .e,2,0⟩ .append [.sl 0 0 m c,.sl 1 0 1 (some 1)] [ts,ts]=some (.val (.sl 2 0 (m+1) none) a)∧a.tr.get 2=some (.cells (ps++[p]) e true false)∧a.nx=3∧a.df=0:=by
 rcases hr with⟨rfl,rfl⟩|⟨rfl,rfl⟩
 .exact⟨_,rM b (id:=0) (id2:=1) (off2:=0) (cc:=some 1) rfl (by omega) (by omega) rfl hp rfl,rfl,rfl,rfl⟩
 .refine⟨_,vR b (id:=0) (id2:=1) (off2:=0) (cc:=some 1) (vs:=ps) (cs:=[p]) ?_ (by omega) rfl,rfl,rfl,rfl⟩
  show takeN ps 0 (m*1)=_;rw[bW,← d];exact zR ps
section
variable{x:Nat}
section
variable{Y:Type}{Z:Y->Y->Int}
theorem o8.get(T:TO Z):∀{l:List Y} {i j:Nat} {a b:Y},o8 Z l->i<=j->l[i]? =some a->l[j]? =some b->Z a b<=0:=by
 intro l i j a b h c d e;obtain⟨hi,rfl⟩:=aJ.1 d;obtain⟨hj,rfl⟩:=aJ.1 e;rcases Nat.lt_or_eq_of_le c with g|rfl
 .exact(List.pairwise_iff_getElem.1 h) i j hi hj g
 .rw[T.refl];exact Int.le_refl _
theorem tT{l:List Y}{t:Nat}{a:Y}(h:a∈l.take t):∃x,x<t∧l[x]? =some a:=by
 obtain⟨x,b,e⟩:=jN.1 h;simp at b;have b:=Nat.lt_min.1 b;exact⟨x,b.1,by rw[aK b.2];simpa using e⟩
theorem tV{l:List Y}{t:Nat}{a:Y}(h:a∈l.drop t):∃x,t<=x∧l[x]? =some a:=by
 obtain⟨x,b,e⟩:=jN.1 h;simp at b;exact⟨t+x,by omega,by rw[aK (by omega)];simpa using e⟩
theorem F9(A V C:List Y)(h:A.length<=x)(h':x<A.length+V.length):(A++V++C)[x]? =V[x - A.length]? :=by
 rw[fC,aY h,aU (by omega)]
theorem Ei{i j:Nat}(hi:i<=1073741824)(hj:j<=1073741824):IntKind.i64.wrap ((IntKind.u64.wrap (IntKind.i64.wrap ((i:Int)+j))).fdiv 2)=(((i+j) / 2:Nat):Int):=by
 rw[dW (z:=(i:Int)+j) (by omega) (by omega)];have:IntKind.u64.wrap ((i:Int)+j)=((i+j:Nat):Int):=by
  unfold IntKind.wrap;simp[IntKind.signed,IntKind.bits];omega
 rw[this,Int.fdiv_eq_ediv_of_nonneg _ (by omega)];rw[dW (by omega) (by omega)];omega
theorem bsearch{P:Program}{E:Env}{St:Nat->Nat->AF}{hp:AH}(q:Nat->Bool)(lo hi:Nat)
 (st:∀i j,lo<=i->i<j->j<=hi->q ((i+j) / 2)=true->DoesS P E (St i j) hp (St ((i+j) / 2+1) j) hp)
 (sf:∀i j,lo<=i->i<j->j<=hi->q ((i+j) / 2)=false->DoesS P E (St i j) hp (St i ((i+j) / 2)) hp)
 (mono:∀x y,lo<=x->x<=y->y<hi->q y=true->q x=true):∀(d i j:Nat),j - i<=d->lo<=i->i<=j->j<=hi->(∀x,lo<=x->x<i->q x=true)->(∀x,j<=x->x<hi->q x=false)->
  ∃k,i<=k∧k<=j∧(∀x,lo<=x->x<k->q x=true)∧(∀x,k<=x->x<hi->q x=false)∧DoesS P E (St i j) hp (St k k) hp
 |d,i,j,s,h1,p,b,m,n=>by
  rcases Nat.lt_or_eq_of_le p with g|rfl
  .match d with
   |0=>omega
   |d+1=>
    cases e:q ((i+j) / 2)
    .obtain⟨k,k1,o,c,f,h⟩:=bsearch q lo hi st sf mono d i ((i+j) / 2) (by omega) h1 (by omega) (by omega) m (λx l a=>by
      cases r:q x
      .rfl
      .rw[mono _ x (by omega) l a r]at e;cases e)
     exact⟨k,k1,by omega,c,f,DoesS.trans (sf i j h1 g b e) h⟩
    .obtain⟨k,k1,o,c,f,h⟩:=bsearch q lo hi st sf mono d ((i+j) / 2+1) j (by omega) (by omega) (by omega) b (λx l a=>mono x _ l (by omega) (by omega) e) n
     exact⟨k,by omega,o,c,f,DoesS.trans (st i j h1 g b e) h⟩
  .exact⟨i,ah _,ah _,m,n,DoesS.refl _ _⟩
theorem aaW(T:TO Z){U1 U2 V1 V2 f g:List Y}(h:o8 Z (U1++U2))(i:o8 Z (V1++V2))(h1:∀v∈V1,∀u∈U2,Z v u<0)(j:∀u∈U1,∀v∈V2,Z u v<=0)
 (k:o8 Z f)(t1:qz Z (U1++V1) f)(n:o8 Z g)(t2:qz Z (U2++V2) g):o8 Z (f++g)∧qz Z (U1++U2++(V1++V2)) (f++g):=by
 refine⟨o8.append k n λa c b d=>?_,?_⟩
 .have c:=(qz.mem T t1).2 c
  have d:=(qz.mem T t2).2 d;rcases bF.1 c with c|c<;>rcases bF.1 d with d|d
  .exact h.cross a c b d
  .exact j a c b d
  .exact kC (h1 a c b d)
  .exact i.cross a c b d
 .have:=((qz.swap T (l:=U2) (m:=V1) λu o v p e=>by
   have:=h1 v p u o;have:=T.zero e;omega).mid U1 V2)
  have e1:U1++U2++(V1++V2)=U1++(U2++V1)++V2:=by simp
  rw[e1];refine this.trans ?_;have e2:U1++(V1++U2)++V2=(U1++V1)++(U2++V2):=by simp
  rw[e2];exact t1.append t2
theorem Y8(T:TO Z){V1 V2:List Y}{u:Y}(f:o8 Z (V1++V2))(h1:∀v∈V1,Z v u<0)(g:∀v∈V2,¬Z v u<0):o8 Z (V1++u::V2)∧qz Z (u::(V1++V2)) (V1++u::V2):=by
 refine⟨o8.append f.left (dG.2 ⟨λv h=>T.not_lt (g v h),f.right⟩) λa d b c=>?_,?_⟩
 .rcases ay.1 c with rfl|c
  .exact kC (h1 a d)
  .exact f.cross a d b c
 .have:=(qz.swap T (l:=[u]) (m:=V1) λa d b c e=>by
   rw[bR.1 d]at e;have:=h1 b c;have:=T.zero e;omega).append (qz.refl (cf:=Z) V2)
  simpa using this
theorem Y7(T:TO Z){U1 U2:List Y}{v:Y}(a:o8 Z (U1++U2))(h1:∀u∈U1,¬Z v u<0)(b:∀u∈U2,Z v u<0):o8 Z (U1++v::U2)∧qz Z (U1++U2++[v]) (U1++v::U2):=
 Ws T a rfl b λp hp=>h1 p (List.mem_of_getLast? hp)
end
end
section
variable{Y:Type}{Z:Y->Y->Int}
def xX(Z:Y->Y->Int):Y->List Y->List Y
 |_,[]=>[]
 |p,x::r=>bif Z x p==0 then xX Z x r else x::xX Z x r
def dd(Z:Y->Y->Int):List Y->List Y
 |[]=>[]
 |x::r=>x::xX Z x r
theorem WQ{p x:Y}{r:List Y}(h:(Z x p==0)=true):xX Z p (x::r)=xX Z x r:=by
 show(bif Z x p==0 then xX Z x r else x::xX Z x r)=_;rw[h];rfl
theorem WS{p x:Y}{r:List Y}(h:(Z x p==0)=false):xX Z p (x::r)=x::xX Z x r:=by
 show(bif Z x p==0 then xX Z x r else x::xX Z x r)=_;rw[h];rfl
def ZY(Z:Y->Y->Int)(l:List Y):Prop:=l.Pairwise λa b=>Z a b<0
def tY(Z:Y->Y->Int)(x:Y)(l:List Y):Option Y:=(cls Z x l).head?
theorem uL{x a:Y}{l:List Y}:tY Z x (a::l)=if Z x a=0 then some a else tY Z x l:=by
 unfold tY cls;rw[kJ];by_cases h:Z x a=0<;>simp[h]
theorem WR(T:TO Z):∀(r:List Y) (p:Y),o8 Z (p::r)->ZY Z (p::xX Z p r)∧∀x,tY Z x (p::xX Z p r)=tY Z x (p::r)
 |[],p,h=>⟨mI ..,λ_=>rfl⟩
 |a::r,p,h=>by
  have h1:=dG.1 h;have l:=h1.1 a (bK ..);obtain⟨i,k⟩:=WR T r a h1.2;by_cases e:Z a p=0
  .have j:xX Z p (a::r)=xX Z a r:=WQ (by simpa using e)
   rw[j];have c:=dG.1 i;refine⟨dG.2 ⟨λb d=>T.EU (iE (T.zero e)) (c.1 b d),c.2⟩,λx=>?_⟩;have:=k x;rw[uL,uL]at this;rw[uL,uL,uL];by_cases g:Z x p=0
   .rw[aH g,aH g]
   .have g':Z x a≠0:=λg'=>g (T.eq_trans g' e)
    rw[au g']at this ⊢;rw[au g',au g]at*;rw[au g];exact this
  .have j:xX Z p (a::r)=a::xX Z a r:=WS (by simpa using e)
   rw[j];have f:Z p a<0:=by
    rcases Int.lt_or_eq_of_le l with h|h
    .exact h
    .exact aP (T.zero h) e
   have c:=dG.1 i;refine⟨dG.2 ⟨λb d=>?_,i⟩,λx=>?_⟩
   .rcases ay.1 d with rfl|d
    .exact f
    .exact T.AJ f (kC (c.1 b d))
   .rw[uL (a:=p),uL (a:=p),k x]
theorem aez(T:TO Z):∀{l:List Y},o8 Z l->ZY Z (dd Z l)∧∀x,tY Z x (dd Z l)=tY Z x l
 |[],_=>⟨List.Pairwise.nil,λ_=>rfl⟩
 |p::r,h=>WR T r p h
theorem qz.fst{l m:List Y}(h:qz Z l m)(x:Y):tY Z x l=tY Z x m:=by unfold tY;rw[h x]
theorem Lf{x a:Y}{l:List Y}(h:tY Z x l=some a):a∈l∧Z x a=0:=by
 have:=List.mem_of_head? h;have:=fB.1 this;exact⟨this.1,by simpa using this.2⟩
theorem NJ(T:TO Z){x a:Y}{l:List Y}(c:a∈l)(h:Z x a=0):∃b,tY Z x l=some b:=by
 unfold tY;cases d:cls Z x l with
 |nil=>
  have:a∈cls Z x l:=fB.2 ⟨c,by simpa using h⟩;rw[d]at this;cases this
 |cons b l=>exact⟨b,rfl⟩
end
theorem KE{zs:List AV}:∀m,(rep m zs).length=m*zs.length
 |0=>by simp[rep]
 |m+1=>by simp[rep,KE m,Nat.succ_mul];omega
theorem MC{zs:List AV}(h:lu zs=true):∀m,lu (rep m zs)=true
 |0=>rfl
 |m+1=>by
  show lu (zs++rep m zs)=true;have:∀(a b:List AV),lu a=true->lu b=true->lu (a++b)=true:=by
   intro a b c d;induction a with
   |nil=>exact d
   |cons x a e=>
    unfold lu at c;rw[av]at c;rw[oU];unfold lu;rw[c.1,e c.2];rfl
  exact this _ _ h (MC h m)
theorem KD{zs:List AV}{n:Nat}(h:∀a∈zs,AV.low n a=true):∀m,∀a∈rep m zs,AV.low n a=true
 |0,a,b=>by cases b
 |m+1,a,b=>by
  rcases bF.1 b with b|b
  .exact h a b
  .exact KD h m a b
theorem Tk{α:Type}{enc:α->List AV}{z:Nat}(c:∀a,(enc a).length=z){zs:List AV}(b:zs.length=z)(d:lu zs=true)(O J:List α){el:TypeId}{g:Bool}{k m:Nat}(e:O.length=k)(f:J.length=m):
 dD ⟨(zL (.cells ((O++J).flatMap enc) el g false)),1,0⟩ 0 (k*z) (rep m zs)=some ⟨(zL (.cells (O.flatMap enc++rep m zs) el g false)),1,0⟩:=by
 subst e f;show(cond (Nat.ble (O.length*z+(rep J.length zs).length) ((O++J).flatMap enc).length&&lu (rep J.length zs)) (some ((⟨(zL (.cells ((O++J).flatMap enc) el g false)),1,0⟩:AH).put 0 (.cells (setAt ((O++J).flatMap enc) (O.length*z) (rep J.length zs)) el g false))) none:Option AH)=_;have e1:setAt ((O++J).flatMap enc) (O.length*z) (rep J.length zs)=O.flatMap enc++rep J.length zs:=by
  have:=rD (J.flatMap enc) (rep J.length zs) (O.flatMap enc) [] (by rw[KE,b,vQ c]);rw[vQ c]at this;simpa using this
 rw[MC d,e1,aW (by rw[KE,b,vQ c];simp[kF])];rfl
abbrev zF(a b:Int)(c:List UInt8):AV:=(.agg [zI a,zI b,.str c])
abbrev mK(a:List UInt8)(b:Option (Nat×Nat))(c d:Nat):AV:=(.agg [.str a,.aO b c d])
abbrev Ya3(a:Nat)(b:Option Nat):AV:=(.bV [.sl 0 0 a b,zP 1 0])
abbrev U3(a:List UInt8):AV:=(.agg [.str a,.aM])
abbrev ZW(a b c:Nat):AV:=(.bV [.aO (some (a,0)) b c,.bool true])
abbrev qX(a:List UInt8)(b:Option (Nat×Nat))(c d:Nat)(e:Int)(f:Option (Nat×Nat))(g h:Nat):AV:=(.agg [.str a,.aO b c d,zI e,.aO f g h])
abbrev Ya7:AV:=(.bV [.aM,.bool false])
abbrev U0:AV:=(.agg [zI 1,zI 1,.str []])
abbrev Ya9:AV:=(.agg [.str [112],.sl 0 0 1 (some 1),zI 0,zI 0])
abbrev Qy:AV:=(.agg [.str [113],.sl 1 0 1 (some 1),zI 0,zI 0])
abbrev zD(a b c:Nat):AV:=(.agg [.str [113],.aO (some (a,b)) 1 c])
abbrev uT:AV:=(.agg [.sl 2 0 2 (some 2),.sl 6 0 1 (some 1)])
abbrev Jf:AV:=(.agg [.str [113],.sl 3 0 1 (some 1)])
abbrev LH:AV:=(.agg [.sl 522 0 1 none,.sl 524 0 1 none])
abbrev UK:AV:=(.agg [zI 1,zI (-1),.sl 466 0 1 none,.sl 505 0 1 none])
abbrev X0:AV:=(.agg [zI 0,zI 0,zI 0])
abbrev FQ(a:Nat)(b:Int):AV:=(.agg [zP 1 a,zI b])
abbrev Qx(a:List UInt8)(b:Nat×Nat)(c d:Nat):AV:=(.agg [.str a,.aO (some b) c d])
abbrev ZX:AV:=(.agg [.str [112],.sl 8 0 1 (some 1)])
abbrev o7(a:Option (Nat×Nat))(b c:Nat)(d:Option (Nat×Nat))(e f:Nat):AV:=(.agg [.str [113],.aO a b c,zI 1,.aO d e f])
abbrev XZ:AV:=(.agg [.sl 5035 0 2 (some 2),.sl 5041 0 1 (some 1)])
abbrev XY:AV:=(.agg [.sl 5045 0 2 (some 2),.sl 5051 0 1 (some 1)])
abbrev wG:AV:=(.agg [.str [],.aM,zI 0,.aM])
abbrev jM(a b:Int)(c:List UInt8):AO:=(.cells [zI a,zI b,.str c] 94 false false)
abbrev lH(a:List UInt8)(b:Option (Nat×Nat))(c d:Nat):AO:=(.cells [.str a,.aO b c d] 25 false false)
abbrev XV(a b:Nat):AO:=(.cells [.ptr (OLD+a) b,.aM] 58 false false)
abbrev OL(a b:Nat):AO:=(.cells [zP (1152921504606846976+a) b,.aM] 58 false false)
abbrev XU(a b c d:Nat)(e:Option Nat):AO:=(.cells [.ptr (OLD+a) b,.sl c 0 d e] 58 false false)
abbrev OJ(a b c d:Nat)(e:Option Nat):AO:=(.cells [zP (1152921504606846976+a) b,.sl c 0 d e] 58 false false)
abbrev Qw:AO:=(.cells [.ptr 2 0] 56 false false)
abbrev ZV:AO:=(.cells [zP 2 0] 56 false false)
abbrev UJ(a b c:Nat):AO:=(.cells [.ptr (OLD+a) (b+c*4),.aM] 58 false false)
abbrev OI:AO:=(.cells [.aM] 30 false false)
abbrev dR(a:List UInt8)(b:Option (Nat×Nat))(c d:Nat)(e:Int)(f:Option (Nat×Nat))(g h:Nat):AO:=(.cells [.str a,.aO b c d,zI e,.aO f g h] 65 false false)
abbrev UH:AO:=(.cells [zI 0] 3 false false)
abbrev LG(a:Nat)(b:Option Nat):AO:=(.cells [.sl 2 0 a b] 30 false false)
abbrev XT(a:AV):AO:=(.cells [a,.aM] 58 false false)
abbrev pJ(a:Int):AO:=(.cells [zI a] 3 false false)
abbrev ZU:AO:=(.cells [.aM] 51 false false)
abbrev XR:AO:=(.cells [.sl 0 0 0 (some 0)] 55 false false)
abbrev XQ:AO:=(.cells [] 3 false false)
abbrev Qu:AO:=(.cells [.str [],.aM] 25 false false)
abbrev XP(a:List UInt8):AO:=(.cells [.str a,.aO none 0 0] 25 false false)
abbrev UG:AO:=(.cells [] 94 false false)
abbrev IE:AO:=(.cells [.str [113],.sl 1 0 1 (some 1),zI 0,zI 0] 88 false false)
abbrev ug:AO:=(.cells [.sl 2 0 2 (some 2),.sl 6 0 1 (some 1)] 40 false false)
abbrev kR:AO:=(.cells [zI 1,.str [88],zI 0,zI 0,.str []] 166 false false)
abbrev UF:AO:=(.cells [.str [112],.sl 0 0 1 (some 1),zI 0,zI 0] 88 false false)
abbrev mh:AO:=(.cells [zI 1] 3 false false)
abbrev yL:AO:=(.cells [zI 1,.str [112],.sl 4 0 1 (some 1),zI 0,zI 0,.str [],zI 0,zI 0,.str [],zI 0,.aM,zI 0,.str [],zI 0,zI 0,.str [],zI 0,.aM,zI 0,.str [],zI 0,.str [],zI 0,zI 0,.str [],zI 0,.aM,.aM,zI 0,zI 0] 102 false false)
abbrev kQ(a b c:Nat):AO:=(.cells [.str [113],.aO (some (a,b)) 1 c] 25 false false)
abbrev FP:AO:=(.cells [.str [],.aM,zI 0,zI 0] 88 false false)
abbrev yK:AO:=(.cells [.str [112],.sl 0 0 1 (some 1),zI 0,zI 0,.str [113],.sl 1 0 1 (some 1),zI 0,zI 0] 88 false false)
abbrev yJ:AO:=(.cells [.str [113],.sl 3 0 1 (some 1),.sl 5 0 1 (some 1),zI 0,zI 0] 104 false false)
abbrev uS:AO:=(.cells [zI 1,zI 1,.str []] 94 false false)
abbrev Qt:AO:=(.cells [zI 1,zI 0,.sl 496 0 1 none,.str []] 356 true false)
abbrev Qo:AO:=(.cells [zI 0] 3 true false)
abbrev LC:AO:=(.cells [.str [88]] 9 true false)
abbrev UE:AO:=(.cells [zI 1,zI (-1),.sl 466 0 1 none,.sl 505 0 1 none] 204 false false)
abbrev IC:AO:=(.cells [.sl 522 0 1 none,.sl 524 0 1 none] 263 false false)
abbrev yI:AO:=(.cells [.aM,.aM] 263 false false)
abbrev afA:AO:=(.cells [.str [88]] 9 false false)
abbrev Qm:AO:=(.cells [zI 0,zI 0,.str []] 94 false false)
abbrev XO:AO:=(.cells [.str [113],.sl 3 0 1 (some 1)] 91 false false)
abbrev afz:AO:=(.cells [zI 1,zI 1,.str []] 94 true false)
abbrev UD(a b c d:Nat):AO:=(.cells [.aO (some (a,b)) c d] 33 false false)
abbrev mg(a:List UInt8)(b:Option (Nat×Nat))(c d:Nat)(e:Int)(f:Option (Nat×Nat))(g h:Nat):AO:=(.cells [.str a,.aO b c d,zI e,.aO f g h] 28 false false)
abbrev aV(a:List AV):AO:=(.cells a 25 true false)
abbrev iL(a:Nat)(b:Int):AO:=(.cells [zP 1 a,zI b] 168 false false)
abbrev iP(a:List AV):AO:=(.cells a 28 false false)
abbrev ZT:AO:=(.cells [.nQ,zI 0] 168 false false)
abbrev pI:AO:=(.cells [.str [],.aM,zI 0,.aM] 28 false false)
abbrev oZ(a:List AV):AO:=(.cells a 3 false false)
abbrev Dn:AO:=(.cells [.fn 29 [] []] 76 false false)
abbrev Av(a b c:Nat):AO:=(.cells [.aO (some (a,0)) b c] 51 false false)
abbrev zA(a:Nat):AO:=(.cells [.sl 0 0 a (some a)] 55 false false)
abbrev IB:AO:=(.cells [.str [113],.sl 3 0 1 (some 1)] 25 false false)
abbrev BO(b c a:Nat):AO:=(.cells [.str [113],.aO (some (b,0)) 1 c,zI 1,.sl 4 0 a (some a)] 28 false false)
abbrev agS:AO:=(.cells [.str [112],.sl 8 0 1 (some 1)] 25 false false)
abbrev acs(a b c d e:Nat):AO:=(.cells [.str [113],.aO (some (a,0)) 1 b,zI 1,.aO (some (c,0)) d e] 28 false false)
abbrev UC:AO:=(.cells [zI 1,zI 0,.str []] 94 false false)
abbrev acr:AO:=(.cells [.str [112],.sl 2 0 1 (some 1)] 25 false false)
abbrev LB(a:Int):AO:=(.cells [zI 1,zI a,.str []] 94 false false)
abbrev afy:AO:=(.cells [.str [113],.sl 3 0 1 (some 1),zI 1,.sl 4 0 2 (some 2)] 65 false false)
abbrev dh(a:Option (Nat×Nat))(b c:Nat)(d:Option (Nat×Nat))(e f:Nat):AO:=(.cells [.str [113],.aO a b c,zI 1,.aO d e f] 28 false false)
abbrev afx:AO:=(.cells [.str [112],.sl 5033 0 1 (some 1),zI 0,zI 0,.str [113],.sl 5034 0 1 (some 1),zI 0,zI 0] 88 false false)
abbrev afw:AO:=(.cells [.str [113],.sl 5037 0 1 (some 1),.sl 5040 0 1 (some 1),zI 0,zI 0] 104 false false)
abbrev afv:AO:=(.cells [zI 1,.str [112],.sl 5039 0 1 (some 1),zI 0,zI 0,.str [],zI 0,zI 0,.str [],zI 0,.aM,zI 0,.str [],zI 0,zI 0,.str [],zI 0,.aM,zI 0,.str [],zI 0,.str [],zI 0,zI 0,.str [],zI 0,.aM,.aM,zI 0,zI 0] 102 false false)
abbrev afu:AO:=(.cells [.sl 5035 0 2 (some 2),.sl 5041 0 1 (some 1)] 40 false false)
abbrev aft:AO:=(.cells [.str [113],.sl 5037 0 1 (some 1)] 91 false false)
abbrev afs:AO:=(.cells [.str [112],.sl 5039 0 1 (some 1)] 91 false false)
abbrev agR:AO:=(.cells [.str [113],.sl 5047 0 1 (some 1),.sl 5050 0 1 (some 1),zI 0,zI 0] 104 false false)
abbrev agQ:AO:=(.cells [.str [112],.sl 5043 0 1 (some 1),zI 0,zI 0,.str [113],.sl 5044 0 1 (some 1),zI 0,zI 0] 88 false false)
abbrev agP:AO:=(.cells [.str [112],.sl 5049 0 1 (some 1)] 91 false false)
abbrev agO:AO:=(.cells [.sl 5045 0 2 (some 2),.sl 5051 0 1 (some 1)] 40 false false)
abbrev agN:AO:=(.cells [zI 1,.str [112],.sl 5049 0 1 (some 1),zI 0,zI 0,.str [],zI 0,zI 0,.str [],zI 0,.aM,zI 0,.str [],zI 0,zI 0,.str [],zI 0,.aM,zI 0,.str [],zI 0,.str [],zI 0,zI 0,.str [],zI 0,.aM,.aM,zI 0,zI 0] 102 false false)
abbrev agM:AO:=(.cells [.str [113],.sl 5047 0 1 (some 1)] 91 false false)
abbrev yH(a:List UInt8)(b:Option (Nat×Nat))(c d:Nat)(e:Int)(f g h i:Nat):AO:=(.cells [.str a,.aO b c d,zI e,.aO (some (f,g)) h i] 28 false false)
abbrev XM(a:Nat):AO:=(.cells [zI ((↑a:Int))] 3 false false)
noncomputable abbrev afk(a:Nat):AO:=(AO.loop LoopState.ready none 8 67 (((((Tr.e.n (some (AV.int IntKind.i64 0)) Tr.e).n none Tr.e).n (some AV.aM) ((Tr.e.n (some AV.aM) Tr.e).n (some (AV.bV [AV.aM,AV.bool false])) Tr.e)).n (some (AV.ptr (1152921504606846976+a) 0)) (((Tr.e.n (some AV.aM) Tr.e).n none Tr.e).n (some (AV.ptr 1 0)) (Tr.e.n (some (AV.bool false)) Tr.e))).n none ((((Tr.e.n (some (AV.sl 0 0 0 (some 0))) Tr.e).n none Tr.e).n (some (AV.bool false)) ((Tr.e.n (some (AV.fn 56 [] [AV.ptr 3 0])) Tr.e).n (some AV.aM) Tr.e)).n (some (AV.int IntKind.i64 0)) (((Tr.e.n (some (AV.int IntKind.i64 0)) Tr.e).n (some (AV.bV [AV.aM,AV.bool false])) Tr.e).n (some (AV.ptr 2 0)) (Tr.e.n (some AV.aM) Tr.e)))) [21,22] (dY f8 [1,1,1,1,0,1,0,0]) (dY f8 [1,1,1,1,0,1,0,1]) 4)
noncomputable abbrev Xy(a b c d:Nat):AO:=(AO.loop LoopState.ready none 8 67 (((((Tr.e.n (some (AV.int IntKind.i64 (↑a:Int))) Tr.e).n none Tr.e).n (some (AV.aO (some (b,0)) a c)) ((Tr.e.n (some (AV.aO (some (b,0)) a c)) Tr.e).n (some (AV.bV [AV.aO (some (b,0)) a c,AV.bool true])) Tr.e)).n (some (AV.ptr (1152921504606846976+d) 0)) (((Tr.e.n (some (AV.aO (some (b,0)) a c)) Tr.e).n none Tr.e).n (some (AV.ptr 1 0)) (Tr.e.n (some (AV.bool true)) Tr.e))).n none ((((Tr.e.n (some (AV.sl 0 0 a (some a))) Tr.e).n none Tr.e).n (some (AV.bool true)) ((Tr.e.n (some (AV.fn 56 [] [AV.ptr 3 0])) Tr.e).n (some (AV.aO (some (b,0)) a c)) Tr.e)).n (some (AV.int IntKind.i64 0)) (((Tr.e.n (some (AV.int IntKind.i64 (↑a:Int))) Tr.e).n (some (AV.bV [AV.aO (some (b,0)) a c,AV.bool true])) Tr.e).n (some (AV.ptr 2 0)) (Tr.e.n (some (AV.aO (some (b,0)) a c)) Tr.e)))) [21,22] (dY f8 [1,1,1,1,0,1,0,0]) (dY f8 [1,1,1,1,0,1,0,1]) 4)
noncomputable abbrev aaG(a b c d:Nat):AO:=(AO.loop LoopState.exhausted none 8 67 (((((Tr.e.n (some (AV.int IntKind.i64 (↑a:Int))) Tr.e).n none Tr.e).n (some (AV.aO (some (b,0)) a c)) ((Tr.e.n (some (AV.aO (some (b,0)) a c)) Tr.e).n (some (AV.bV [AV.aO (some (b,0)) a c,AV.bool true])) Tr.e)).n (some (AV.ptr (1152921504606846976+d) 0)) (((Tr.e.n (some (AV.aO (some (b,0)) a c)) Tr.e).n none Tr.e).n (some (AV.ptr 1 0)) (Tr.e.n (some (AV.bool true)) Tr.e))).n none ((((Tr.e.n (some (AV.sl 0 0 a (some a))) Tr.e).n none Tr.e).n (some (AV.bool true)) ((Tr.e.n (some (AV.fn 56 [] [AV.ptr 3 0])) Tr.e).n (some (AV.aO (some (b,0)) a c)) Tr.e)).n (some (AV.int IntKind.i64 0)) (((Tr.e.n (some (AV.int IntKind.i64 (↑a:Int))) Tr.e).n (some (AV.bV [AV.aO (some (b,0)) a c,AV.bool true])) Tr.e).n (some (AV.ptr 2 0)) (Tr.e.n (some (AV.aO (some (b,0)) a c)) Tr.e)))) [21,22] (dY f8 [1,1,1,1,0,1,0,0]) (dY f8 [1,1,1,1,0,1,0,1]) 4)
noncomputable abbrev JW(a b c d:Nat):AO:=(AO.loop LoopState.busy none 8 67 (((((Tr.e.n (some (AV.int IntKind.i64 (↑a:Int))) Tr.e).n none Tr.e).n (some (AV.aO (some (b,0)) a c)) ((Tr.e.n (some (AV.aO (some (b,0)) a c)) Tr.e).n (some (AV.bV [AV.aO (some (b,0)) a c,AV.bool true])) Tr.e)).n (some (AV.ptr (1152921504606846976+d) 0)) (((Tr.e.n (some (AV.aO (some (b,0)) a c)) Tr.e).n none Tr.e).n (some (AV.ptr 1 0)) (Tr.e.n (some (AV.bool true)) Tr.e))).n none ((((Tr.e.n (some (AV.sl 0 0 a (some a))) Tr.e).n none Tr.e).n (some (AV.bool true)) ((Tr.e.n (some (AV.fn 56 [] [AV.ptr 3 0])) Tr.e).n (some (AV.aO (some (b,0)) a c)) Tr.e)).n (some (AV.int IntKind.i64 0)) (((Tr.e.n (some (AV.int IntKind.i64 (↑a:Int))) Tr.e).n (some (AV.bV [AV.aO (some (b,0)) a c,AV.bool true])) Tr.e).n (some (AV.ptr 2 0)) (Tr.e.n (some (AV.aO (some (b,0)) a c)) Tr.e)))) [21,22] (dY f8 [1,1,1,1,0,1,0,0]) (dY f8 [1,1,1,1,0,1,0,1]) 4)
noncomputable abbrev afj:List AI:=[.code (dY f115 [1,0,1,0,0]),.inLoop (dY f115 [1,0,1,0,0]),.inBlock 0,.code (dY f115 [1,1])]
noncomputable abbrev afi:List AI:=[.code (dY f6 [1,0,0]),.code (dY f6 [1,0,1]),.code (dY f6 [1,1])]
noncomputable abbrev aaF:List AI:=[.code (dY f6 [1,1,1,1,1,0,0,0]),.inLoop (dY f6 [1,1,1,1,1,0,0,0]),.inBlock 0,.code (dY f6 [1,1,1,1,1,1])]
noncomputable abbrev aaE:List AI:=[.code (dY f6 [1,1,1,1,1,0,0,0,1,0,1,1,1,1]),.inBlock 1,.inLoop (dY f6 [1,1,1,1,1,0,0,0]),.inBlock 0,.code (dY f6 [1,1,1,1,1,1])]
noncomputable abbrev aaD:List AI:=[.code (dY f6 [1,1,1,1,1,0,0,0,1,0,1,1,1,1,1,1]),.inBlock 1,.inLoop (dY f6 [1,1,1,1,1,0,0,0]),.inBlock 0,.code (dY f6 [1,1,1,1,1,1])]
noncomputable abbrev afh:List AI:=[.code (dY f9 [1,0]),.code (dY f9 [1,1])]
noncomputable abbrev afg:List AI:=[.code (dY f7 [1,0]),.code (dY f7 [1,1])]
noncomputable abbrev aff:List AI:=[.code (dY f8 [1,0]),.code (dY f8 [1,1])]
noncomputable abbrev afe:List AI:=[.code (dY f9 [1,1,1,0,1,0,0]),.inLoop (dY f9 [1,1,1,0,1,0,0]),.inBlock 0,.code (dY f9 [1,1,1,1])]
noncomputable abbrev afd:List AI:=[.code (dY f18 [1,1,0,1,0,0]),.inLoop (dY f18 [1,1,0,1,0,0]),.inBlock 0,.code (dY f18 [1,1,1])]
noncomputable abbrev afc:List AI:=[.code (dY f18 [1,1,0,1,0,0,1,0,0,1,1,0,0]),.inLoop (dY f18 [1,1,0,1,0,0,1,0,0,1,1,0,0]),.inBlock 2,.inBlock 1,.code (dY f18 [1,1,0,1,0,0,1,1]),.inLoop (dY f18 [1,1,0,1,0,0]),.inBlock 0,.code (dY f18 [1,1,1])]
noncomputable abbrev afb:List AI:=[.code (dY f70 [1,1,1,1,1,1,1,1,1,0,1,0,0,1,1,0,0,1,0]),.code (dY f70 [1,1,1,1,1,1,1,1,1,0,1,0,0,1,1,0,0,1,1]),.inBlock 1,.code (dY f70 [1,1,1,1,1,1,1,1,1,0,1,0,0,1,1,1]),.inLoop (dY f70 [1,1,1,1,1,1,1,1,1,0,1,0,0]),.inBlock 0,.code (dY f70 [1,1,1,1,1,1,1,1,1,1])]
noncomputable abbrev aaC:List AI:=[.code (dY f10 [1,0]),.code (dY f10 [1,1])]
noncomputable abbrev aaB:List AI:=[.code (dY f10 [1,1,1,1,1,0,1,0,0,1,1,0,0,1,1,1,0,1,0,0]),.inLoop (dY f10 [1,1,1,1,1,0,1,0,0,1,1,0,0,1,1,1,0,1,0,0]),.inBlock 5,.code (dY f10 [1,1,1,1,1,0,1,0,0,1,1,0,0,1,1,1,1]),.inBlock 4,.code (dY f10 [1,1,1,1,1,0,1,0,0,1,1,1]),.inLoop (dY f10 [1,1,1,1,1,0,1,0,0]),.inBlock 3,.code (dY f10 [1,1,1,1,1,1])]
noncomputable abbrev afa:List AI:=[.code (dY f36 [1,1,1,0,0,0]),.inLoop (dY f36 [1,1,1,0,0,0]),.inBlock 0,.code (dY f36 [1,1,1,1])]
noncomputable abbrev aaA:List AI:=[.code (dY f36 [1,1,1,0,0,0,1,0,1,1,1,1,1,1,0,0]),.inLoop (dY f36 [1,1,1,0,0,0,1,0,1,1,1,1,1,1,0,0]),.inBlock 2,.inBlock 1,.inLoop (dY f36 [1,1,1,0,0,0]),.inBlock 0,.code (dY f36 [1,1,1,1])]
noncomputable abbrev ae9:List AI:=[.code (dY f35 [1,1,0,1,0,0]),.inLoop (dY f35 [1,1,0,1,0,0]),.inBlock 0,.code (dY f35 [1,1,1])]
noncomputable abbrev ae8:List AI:=[.code (dY f35 [1,1,0,1,0,0,1,1,0,0,1,1,1,0,0]),.inLoop (dY f35 [1,1,0,1,0,0,1,1,0,0,1,1,1,0,0]),.inBlock 2,.inBlock 1,.code (dY f35 [1,1,0,1,0,0,1,1,1]),.inLoop (dY f35 [1,1,0,1,0,0]),.inBlock 0,.code (dY f35 [1,1,1])]
noncomputable abbrev ae7:List AI:=[.code (dY f60 [1,1,0,1,0,0]),.inLoop (dY f60 [1,1,0,1,0,0]),.inBlock 0,.code (dY f60 [1,1,1])]
noncomputable abbrev ae6:List AI:=[.code (dY f60 [1,1,0,1,0,0,1,0,0,1,0,1,0,1,0,0]),.inLoop (dY f60 [1,1,0,1,0,0,1,0,0,1,0,1,0,1,0,0]),.inBlock 2,.code (dY f60 [1,1,0,1,0,0,1,0,0,1,0,1,1]),.inBlock 1,.code (dY f60 [1,1,0,1,0,0,1,1]),.inLoop (dY f60 [1,1,0,1,0,0]),.inBlock 0,.code (dY f60 [1,1,1])]
noncomputable abbrev ae5:List AI:=[.code (dY f174 [1,0,0]),.inLoop (dY f174 [1,0,0]),.inBlock 0]
noncomputable abbrev ae4:List AI:=[.code (dY f174 [1,0,0,1,0,0,1,0,0]),.inLoop (dY f174 [1,0,0,1,0,0,1,0,0]),.inBlock 2,.inBlock 1,.code (dY f174 [1,0,0,1,1]),.inLoop (dY f174 [1,0,0]),.inBlock 0]
noncomputable abbrev ae3:List AI:=[.code (dY f310 [1,0,0]),.inLoop (dY f310 [1,0,0]),.inBlock 0]
noncomputable abbrev ae2:List AI:=[.code (dY f113 [1,1,0,0,0]),.inLoop (dY f113 [1,1,0,0,0]),.inBlock 0,.code (dY f113 [1,1,1])]
noncomputable abbrev ae1:List AI:=[.code (dY f113 [1,1,1,1,0,0]),.inLoop (dY f113 [1,1,1,1,0,0]),.inBlock 2]
noncomputable abbrev ae0:List AI:=[.code (dY f113 [1,1,1,1,0,0,1,0,1,0,0,0]),.inLoop (dY f113 [1,1,1,1,0,0,1,0,1,0,0,0]),.inBlock 4,.code (dY f113 [1,1,1,1,0,0,1,0,1,1]),.inBlock 3,.inLoop (dY f113 [1,1,1,1,0,0]),.inBlock 2]
noncomputable abbrev aeZ:List AI:=[.code (dY f175 [0,1,0,1,1,0,0,0]),.inLoop (dY f175 [0,1,0,1,1,0,0,0]),.inBlock 0,.code (dY f175 [0,1,0,1,1,1]),.code (dY f175 [1])]
noncomputable abbrev aeY:List AI:=[.code (dY f175 [1,0,1,0,1,1,0,0,0]),.inLoop (dY f175 [1,0,1,0,1,1,0,0,0]),.inBlock 4,.code (dY f175 [1,0,1,0,1,1,1]),.code (dY f175 [1,1])]
noncomputable abbrev aeX:List AI:=[.code (dY f175 [1,1,1,1,1,1,1,0,0,0]),.inLoop (dY f175 [1,1,1,1,1,1,1,0,0,0]),.inBlock 8,.code (dY f175 [1,1,1,1,1,1,1,1])]
noncomputable abbrev aeW:List AI:=[.code (dY f175 [0,1,0,1,1,1,0,1,0,0]),.inLoop (dY f175 [0,1,0,1,1,1,0,1,0,0]),.inBlock 2,.code (dY f175 [0,1,0,1,1,1,1]),.code (dY f175 [1])]
noncomputable abbrev aeV:List AI:=[.code (dY f175 [1,0,1,0,1,1,1,0,1,0,0]),.inLoop (dY f175 [1,0,1,0,1,1,1,0,1,0,0]),.inBlock 6,.code (dY f175 [0,1,0,1,1,1,1]),.code (dY f175 [1,1])]
noncomputable abbrev aeU:List AI:=[.code (dY f175 [1,1,1,1,1,1,1,1,1,1])]
noncomputable abbrev aeT:List AI:=[.code (dY f175 [1,1,1,1,1,1,1,1,1,1,1])]
noncomputable abbrev aeS:List AI:=[.code (dY f250 [1,1,0,0,0]),.inLoop (dY f250 [1,1,0,0,0]),.inBlock 0,.code (dY f250 [1,1,1])]
noncomputable abbrev aeR:List AI:=[.code (dY f56 [1,0,0]),.inLoop (dY f56 [1,0,0]),.inBlock 0]
noncomputable abbrev Sw:List AI:=[.code (dY f8 [1,1,1,1,0,1,0,0]),.beginRound,.code (dY f8 [1,1,1,1,0,1,0,1])]
noncomputable abbrev aeQ:List AI:=[.code (dY f8 [1,1,1,1,0,1,0,1,0,1,0,1,0,0]),.inLoop (dY f8 [1,1,1,1,0,1,0,1,0,1,0,1,0,0]),.inBlock 2,.code (dY f8 [1,1,1,1,0,1,0,1,0,1,1]),.inBlock 1]
noncomputable abbrev aeP:List AI:=[.code (dY f5 [1,1,0,1,0,0]),.inLoop (dY f5 [1,1,0,1,0,0]),.inBlock 0,.code (dY f5 [1,1,1])]
noncomputable abbrev aeO:List AI:=[.code (dY f13 [1,1,0,1,0,0]),.inLoop (dY f13 [1,1,0,1,0,0]),.inBlock 0,.code (dY f13 [1,1,1])]
noncomputable abbrev aeN:List AI:=[.code (dY f53 [1,0,1,0,0]),.inLoop (dY f53 [1,0,1,0,0]),.inBlock 0,.code (dY f53 [1,1])]
noncomputable abbrev aeM:List AI:=[.code (dY f22 [1,1,1,0,0,0]),.inLoop (dY f22 [1,1,1,0,0,0]),.inBlock 0,.code (dY f22 [1,1,1,1])]
noncomputable abbrev aeL:List AI:=[.code (dY f3 [1,1,1,0]),.code (dY f3 [1,1,1,1])]
noncomputable abbrev aeK:List AI:=[.code (dY f3 [1,1,1,1,0]),.code (dY f3 [1,1,1,1,1])]
noncomputable abbrev aeJ:List AI:=[.code (dY f3 [1,1,1,1,1,0]),.code (dY f3 [1,1,1,1,1,1])]
noncomputable abbrev aeI:List AI:=[.code (dY f3 [1,1,1,1,1,1,1,1,1,0]),.code (dY f3 [1,1,1,1,1,1,1,1,1,1])]
noncomputable abbrev aeH:List AI:=[.code (dY f3 [1,1,1,1,1,1,1,1,1,1,1,0]),.code (dY f3 [1,1,1,1,1,1,1,1,1,1,1,1])]
noncomputable abbrev aeG:List AI:=[.code (dY f3 [1,1,1,1,1,1,1,1,1,1,1,1,0]),.code (dY f3 [1,1,1,1,1,1,1,1,1,1,1,1,1])]
noncomputable abbrev aeF:List AI:=[.code (dY f135 [1,1,0,1,0,0]),.inLoop (dY f135 [1,1,0,1,0,0]),.inBlock 0,.code (dY f135 [1,1,1])]
noncomputable abbrev aeE:List AI:=[.code (dY f37 [1,1,1,1,0,1,0,0]),.inLoop (dY f37 [1,1,1,1,0,1,0,0]),.inBlock 0,.code (dY f37 [1,1,1,1,1])]
noncomputable abbrev bG(a b c:AO):AH:=⟨zN (zL a) b (zL c),3,0⟩
noncomputable abbrev ji(a b:AO):AH:=⟨zN (zL a) b .e,2,0⟩
noncomputable abbrev aC(a:AO):AH:=⟨zL a,1,0⟩
noncomputable abbrev iK(a b c d:AO):AH:=⟨zN (zN (zL a) b .e) c (zL d),4,0⟩
noncomputable abbrev JZ(a:AO):AH:=⟨zN (zL a) OI .e,3,0⟩
noncomputable abbrev yC(a b c d f:AO):AH:=⟨zN (zN (zL a) b .e) c (zN (zL d) f .e),5,0⟩
noncomputable abbrev lX(a b c d f g:AO):AH:=⟨zN (zN (zL a) b (zL c)) d (zN (zL f) g .e),6,0⟩
noncomputable abbrev afp(a b:AO):AH:=⟨zN (zN (zN (zN (zL IE) ug .e) kR (zL UF)) mh (zN (zN (zL (AO.sit [113] 1)) ug .e) yL (zL IE))) mh (zN (zN (zN (zL a) b .e) kR (zL FP)) yK (zN (zL (.map [⟨.str [112],Ya9,0⟩,⟨.str [113],Qy,1⟩] 2)) yJ (zL FP))),18,0⟩
noncomputable abbrev afo(a b:AO):AH:=⟨zN (zN (zN (zN (zL IE) ug .e) kR (zN (zL uS) UF .e)) mh (zN (zN (zL (AO.sit [113] 1)) ug .e) yL (zL IE))) mh (zN (zN (zN (zL a) b .e) kR (zL FP)) yK (zN (zN (zL uS) (.map [⟨.str [112],Ya9,0⟩,⟨.str [113],Qy,1⟩] 2) .e) yJ (zL FP))),20,0⟩
noncomputable abbrev aaM(a:AO):AH:=⟨zN (zN (zN (zN (zL IE) ug .e) kR (zL UF)) mh (zN (zL ug) yL (zL IE))) mh (zN (zN (zL a) kR (zL FP)) yK (zN (zL (.map [⟨.str [112],Ya9,0⟩,⟨.str [113],Qy,1⟩] 2)) yJ (zL FP))),16,0⟩
noncomputable abbrev afn(a b:AO):AH:=⟨zN (zN (zN (zN (zL IE) ug .e) kR (zL UF)) mh (zN (zL ug) yL (zL IE))) mh (zN (zN (zN (zL a) b .e) kR (zL FP)) yK (zN (zL (.map [⟨.str [112],Ya9,0⟩,⟨.str [113],Qy,1⟩] 2)) yJ (zL FP))),17,0⟩
noncomputable abbrev zu(a b c d e f g:AO):AH:=⟨zN (zN (zL a) b (zL c)) d (zN (zL e) f (zL g)),7,0⟩
noncomputable abbrev afm(a b:AO):AH:=⟨zN (zN (zN (zN (zL IE) ug .e) kR (zN (zL uS) UF .e)) mh (zN (zN (zL (AO.sit [113] 1)) ug .e) yL (zL IE))) mh (zN (zN (zN (zL a) b .e) kR (zN (zL uS) FP .e)) yK (zN (zN (zL uS) (.map [⟨.str [112],Ya9,0⟩,⟨.str [113],Qy,1⟩] 2) .e) yJ (zL FP))),21,0⟩
noncomputable abbrev XC(a:AO):AH:=⟨zN (zN (zN (zL ug) kR (zL UF)) mh (zN (zL ug) yL (zL IE))) mh (zN (zN (zL a) kR (zL FP)) yK (zN (zL (.map [⟨.str [112],Ya9,0⟩,⟨.str [113],Qy,1⟩] 2)) yJ (zL FP))),15,0⟩
noncomputable abbrev Dj(a:AO):AH:=⟨zN (zN (zN (zL ug) kR .e) mh (zL yL)) mh (zN (zN (zL a) kR .e) yK (zL yJ)),9,0⟩
noncomputable abbrev aaL(a:AO):AH:=⟨zN (zN (zN (zL ug) kR .e) mh (zN (zO .e (zO .e (zO .e (zO .e (zO .e (zL Qt)))))) yL .e)) mh (zN (zN (zN (zO .e (zO .e (zO .e (zO .e (zL Qo))))) a .e) kR .e) yK (zN (zO (zO .e (zO (zO .e (zO .e (zL LC))) .e)) .e) yJ (zO .e (zO .e (zO .e (zO .e (zO .e (zL UE)))))))),511,0⟩
noncomputable abbrev JY(a b c:AO):AH:=⟨zN (zN (zN (zN (zO (zO (zO (zO (zO (zL a) .e) .e) .e) .e) .e) ug (zO (zO (zO (zO (zO (zL uS) .e) .e) .e) .e) .e)) kR (zO (zO (zO (zO (zO (zO (zL yI) .e) .e) .e) .e) .e) (zO (zO (zO (zO (zO (zL uS) .e) .e) .e) .e) .e))) mh (zN (zO (zO (zO (zO (zO (zO (zL b) .e) .e) .e) .e) .e) (zO (zO (zO (zO (zO (zL afA) .e) .e) .e) .e) (zO .e (zO .e (zO .e (zL Qt)))))) yL (zO (zO (zO (zO (zO (zO (zL Qm) .e) .e) .e) .e) .e) .e))) mh (zN (zN (zN (zO (zO (zO (zO (zO (zL XO) .e) .e) .e) .e) (zO .e (zO .e (zO .e (zL Qo))))) c (zO (zO (zO (zO (zO (zL IC) .e) .e) .e) .e) .e)) kR (zO (zO (zO (zO (zO (zO (zL Qm) .e) .e) .e) .e) .e) (zO (zO (zO (zO (zO (zL afz) .e) .e) .e) .e) .e))) yK (zN (zO (zO (zO (zO (zO (zO (zL kR) .e) .e) .e) .e) (zO (zO .e (zO .e (zL LC))) .e)) (zO (zO (zO (zO (zO (zL LC) .e) .e) .e) .e) .e)) yJ (zO (zO (zO (zO (zO (zO (zL yI) .e) .e) .e) .e) .e) (zO .e (zO .e (zO .e (zO .e (zL UE)))))))),525,0⟩
noncomputable abbrev aaK(a:AO):AH:=⟨zN (zN (zN (zN (zO (zO (zO (zO (zO (zL yI) .e) .e) .e) .e) .e) ug .e) kR (zO (zO (zO (zO (zO (zO (zL yI) .e) .e) .e) .e) .e) .e)) mh (zN (zO (zO (zO (zO (zO (zO (zL yI) .e) .e) .e) .e) .e) (zO .e (zO .e (zO .e (zO .e (zL Qt)))))) yL .e)) mh (zN (zN (zN (zO (zO (zO (zO (zO (zL XO) .e) .e) .e) .e) (zO .e (zO .e (zO .e (zL Qo))))) a .e) kR (zO (zO (zO (zO (zO (zO (zL Qm) .e) .e) .e) .e) .e) .e)) yK (zN (zO (zO (zO (zO (zO (zO (zL kR) .e) .e) .e) .e) (zO (zO .e (zO .e (zL LC))) .e)) .e) yJ (zO .e (zO .e (zO .e (zO .e (zO .e (zL UE)))))))),517,0⟩
noncomputable abbrev XB(a:AO):AH:=⟨zN (zN (zN (zN (zO (zO (zO (zO (zO (zL yI) .e) .e) .e) .e) .e) ug .e) kR (zO (zO (zO (zO (zO (zO (zL yI) .e) .e) .e) .e) .e) .e)) mh (zN (zO (zO (zO (zO (zO (zO (zL yI) .e) .e) .e) .e) .e) (zO .e (zO .e (zO .e (zO .e (zL Qt)))))) yL (zO (zO (zO (zO (zO (zO (zL Qm) .e) .e) .e) .e) .e) .e))) mh (zN (zN (zN (zO (zO (zO (zO (zO (zL XO) .e) .e) .e) .e) (zO .e (zO .e (zO .e (zL Qo))))) a .e) kR (zO (zO (zO (zO (zO (zO (zL Qm) .e) .e) .e) .e) .e) .e)) yK (zN (zO (zO (zO (zO (zO (zO (zL kR) .e) .e) .e) .e) (zO (zO .e (zO .e (zL LC))) .e)) .e) yJ (zO .e (zO .e (zO .e (zO .e (zO .e (zL UE)))))))),518,0⟩
noncomputable abbrev aaJ(a:AO):AH:=⟨zN (zN (zN (zN (zO (zO (zO (zO (zO (zL IC) .e) .e) .e) .e) .e) ug (zO (zO (zO (zO (zO (zL uS) .e) .e) .e) .e) .e)) kR (zO (zO (zO (zO (zO (zO (zL yI) .e) .e) .e) .e) .e) (zO (zO (zO (zO (zO (zL uS) .e) .e) .e) .e) .e))) mh (zN (zO (zO (zO (zO (zO (zO (zL IC) .e) .e) .e) .e) .e) (zO (zO (zO (zO (zO (zL afA) .e) .e) .e) .e) (zO .e (zO .e (zO .e (zL Qt)))))) yL (zO (zO (zO (zO (zO (zO (zL Qm) .e) .e) .e) .e) .e) (zO (zO (zO (zO (zO (zL IC) .e) .e) .e) .e) .e)))) mh (zN (zN (zN (zO (zO (zO (zO (zO (zL XO) .e) .e) .e) .e) (zO .e (zO .e (zO .e (zL Qo))))) a (zO (zO (zO (zO (zO (zL IC) .e) .e) .e) .e) .e)) kR (zO (zO (zO (zO (zO (zO (zL Qm) .e) .e) .e) .e) .e) (zO (zO (zO (zO (zO (zL afz) .e) .e) .e) .e) .e))) yK (zN (zO (zO (zO (zO (zO (zO (zL kR) .e) .e) .e) .e) (zO (zO .e (zO .e (zL LC))) .e)) (zO (zO (zO (zO (zO (zL LC) .e) .e) .e) .e) .e)) yJ (zO (zO (zO (zO (zO (zO (zL yI) .e) .e) .e) .e) .e) (zO .e (zO .e (zO .e (zO .e (zL UE)))))))),526,0⟩
noncomputable abbrev XA(a:AO):AH:=⟨zN (zN (zN (zL ug) kR .e) mh (zN (zO .e (zO .e (zO .e (zO .e (zO .e (zL Qt)))))) yL .e)) mh (zN (zN (zN (zO .e (zO .e (zO .e (zO .e (zL Qo))))) a .e) kR .e) yK (zN (zO (zO .e (zO (zO .e (zO .e (zL LC))) .e)) .e) yJ .e)),510,0⟩
noncomputable abbrev JX(a b:AO):AH:=⟨zN (zN (zN (zL ug) kR .e) mh (zN (zL a) yL .e)) mh (zN (zN (zL b) kR .e) yK (zL yJ)),10,0⟩
noncomputable abbrev qx:AH:=⟨zN (zN (zN (zL ug) kR .e) mh (zL yL)) mh (zN (zL kR) yK (zL yJ)),8,0⟩
noncomputable abbrev A8(a b c d:AO):AH:=⟨zN (zO (zO (zL a) .e) (zL b)) pI (zO (zN (zL c) d .e) (zL agS)),9,0⟩
noncomputable abbrev Om(a b:AO):AH:=⟨zN (zO .e (zL a)) pI (zO (zL b) .e),6,0⟩
noncomputable abbrev Ol(a:AO):AH:=⟨zO .e (zO .e (zO .e (zO (zO (zO .e (zO (zO .e (zO .e (zO .e (zO (zO (zL a) .e) .e)))) .e)) .e) .e))),5031,0⟩
noncomputable abbrev afl(a b:AO):AH:=⟨zO (zO (zO (zO .e (zO (zO .e (zO (zO .e (zO .e (zO .e (zO (zO (zL a) .e) .e)))) .e)) .e)) .e) .e) (zO .e (zO .e (zO (zO (zO .e (zO (zO .e (zO .e (zO .e (zO (zO (zL b) .e) .e)))) .e)) .e) .e))),5032,0⟩
noncomputable abbrev Di(a b:AO):AH:=⟨zO (zO (zO (zO (zO .e (zO .e (zO (zO .e (zO .e (zO .e (zO (zO (zL kR) .e) .e)))) .e))) (zO (zO .e (zO (zO .e (zO .e (zO .e (zO (zO (zL a) .e) .e)))) .e)) .e)) (zO .e (zO (zO .e (zO (zO .e (zO .e (zO .e (zO (zO (zL afx) .e) .e)))) .e)) .e))) (zO (zO (zO .e (zO .e (zO (zO .e (zO .e (zO .e (zO (zO (zL afw) .e) .e)))) .e))) (zO (zO .e (zO (zO .e (zO .e (zO .e (zO (zO (zL mh) .e) .e)))) .e)) .e)) (zO .e (zO (zO .e (zO (zO .e (zO .e (zO .e (zO (zO (zL kR) .e) .e)))) .e)) .e)))) (zO (zO (zO (zO .e (zO .e (zO (zO .e (zO .e (zO .e (zO (zO (zL afv) .e) .e)))) .e))) (zO (zO .e (zO (zO .e (zO .e (zO .e (zO (zO (zL afu) .e) .e)))) .e)) .e)) (zO .e (zO (zO .e (zO (zO .e (zO .e (zO .e (zO (zO (zL aft) .e) .e)))) .e)) .e))) (zO (zO .e (zO (zO .e (zO (zO .e (zO .e (zO .e (zO (zO (zL mh) .e) .e)))) .e)) .e)) (zO (zO (zO .e (zO (zO .e (zO .e (zO .e (zO (zO (zL b) .e) .e)))) .e)) .e) (zO (zO .e (zO (zO .e (zO .e (zO .e (zO (zO (zL afs) .e) .e)))) .e)) .e)))),5042,0⟩
noncomputable abbrev Dh(a b:AO):AH:=⟨zO (zO (zO (zO (zO .e (zO .e (zO (zO .e (zO .e (zO .e (zO (zO (zL kR) .e) .e)))) .e))) (zO (zO .e (zO (zO .e (zO .e (zO .e (zO (zO (zL a) .e) .e)))) .e)) (zO .e (zO (zO .e (zO .e (zO .e (zO (zO (zL kR) .e) .e)))) .e)))) (zO (zO .e (zO .e (zO (zO .e (zO .e (zO .e (zO (zO (zL mh) .e) .e)))) .e))) (zO (zO .e (zO (zO .e (zO .e (zO .e (zO (zO (zL afx) .e) .e)))) .e)) (zO .e (zO (zO .e (zO .e (zO .e (zO (zO (zL agR) .e) .e)))) .e))))) (zO (zO (zO .e (zO .e (zO (zO .e (zO .e (zO .e (zO (zO (zL afw) .e) .e)))) .e))) (zO (zO .e (zO (zO .e (zO .e (zO .e (zO (zO (zL mh) .e) .e)))) .e)) (zO .e (zO (zO .e (zO .e (zO .e (zO (zO (zL kR) .e) .e)))) .e)))) (zO (zO .e (zO .e (zO (zO .e (zO .e (zO .e (zO (zO (zL agQ) .e) .e)))) .e))) (zO (zO .e (zO (zO .e (zO .e (zO .e (zO (zO (zL kR) .e) .e)))) .e)) .e)))) (zO (zO (zO (zO .e (zO .e (zO (zO .e (zO .e (zO .e (zO (zO (zL afv) .e) .e)))) .e))) (zO (zO .e (zO (zO .e (zO .e (zO .e (zO (zO (zL afu) .e) .e)))) .e)) (zO .e (zO (zO .e (zO .e (zO .e (zO (zO (zL agP) .e) .e)))) .e)))) (zO (zO .e (zO .e (zO (zO .e (zO .e (zO .e (zO (zO (zL mh) .e) .e)))) .e))) (zO (zO .e (zO (zO .e (zO .e (zO .e (zO (zO (zL aft) .e) .e)))) .e)) .e))) (zO (zO (zO .e (zO .e (zO (zO .e (zO .e (zO .e (zO (zO (zL agO) .e) .e)))) .e))) (zO (zO .e (zO (zO .e (zO .e (zO .e (zO (zO (zL mh) .e) .e)))) .e)) (zO .e (zO (zO .e (zO .e (zO .e (zO (zO (zL agN) .e) .e)))) .e)))) (zO (zO (zO .e (zO (zO .e (zO .e (zO .e (zO (zO (zL b) .e) .e)))) .e)) (zO .e (zO (zO .e (zO .e (zO .e (zO (zO (zL agM) .e) .e)))) .e))) (zO (zO .e (zO (zO .e (zO .e (zO .e (zO (zO (zL afs) .e) .e)))) .e)) .e)))),5052,0⟩
noncomputable abbrev Oj(a:AO):AH:=⟨zO .e (zO .e (zO .e (zO (zO (zO .e (zO (zO .e (zO .e (zO .e (zO (zO (zL a) .e) .e)))) .e)) .e) .e))),5052,0⟩
noncomputable abbrev aaI(a b:AO):AH:=⟨zO .e (zO (zO .e (zO .e (zO .e (zO .e (zO (zO .e (zO .e (zO .e (zO (zO (zL a) .e) .e)))) .e))))) (zO .e (zO (zO (zO .e (zO (zO .e (zO .e (zO .e (zO (zO (zL b) .e) .e)))) .e)) .e) .e))),5053,0⟩
noncomputable abbrev Ip(a b:AO):AH:=⟨zO .e (zO (zO .e (zO .e (zO .e (zO .e (zO (zO .e (zO .e (zO .e (zO (zO (zL a) .e) .e)))) .e))))) (zO .e (zO (zO (zO .e (zO (zO .e (zO .e (zO .e (zO (zO (zL b) .e) .e)))) .e)) .e) .e))),5054,0⟩
noncomputable abbrev Dg(a b:AO):AH:=⟨zO .e (zO (zO .e (zO .e (zO .e (zO .e (zO (zO .e (zO .e (zO .e (zO (zO (zL a) .e) .e)))) .e))))) (zO .e (zO (zO (zO .e (zO (zO .e (zO .e (zO .e (zO (zO (zL b) .e) .e)))) .e)) .e) .e))),5055,0⟩
noncomputable abbrev aaH(a b c:AO):AH:=⟨zO (zO (zO (zO (zO (zO (zO .e (zO .e (zO .e (zO .e (zO (zO (zL a) .e) .e))))) .e) .e) .e) .e) .e) (zO (zO .e (zO .e (zO .e (zO .e (zO (zO .e (zO .e (zO .e (zO (zO (zL b) .e) .e)))) .e))))) (zO .e (zO (zO (zO .e (zO (zO .e (zO .e (zO .e (zO (zO (zL c) .e) .e)))) .e)) .e) .e))),5056,0⟩
noncomputable abbrev AZ(a b c d:AO):AH:=⟨zO (zO (zO (zO (zO (zO (zO .e (zO .e (zO .e (zO .e (zO (zO (zL a) .e) .e))))) .e) .e) .e) .e) .e) (zO (zO (zO (zO (zO (zO .e (zO .e (zO .e (zO .e (zO (zO (zL b) .e) .e))))) .e) .e) .e) (zO .e (zO .e (zO .e (zO (zO .e (zO .e (zO .e (zO (zO (zL c) .e) .e)))) .e))))) (zO .e (zO (zO (zO .e (zO (zO .e (zO .e (zO .e (zO (zO (zL d) .e) .e)))) .e)) .e) .e))),5057,0⟩
noncomputable abbrev Io(a b c d:AO):AH:=⟨zO (zO (zO (zO (zO (zO (zO .e (zO .e (zO .e (zO .e (zO (zO (zL a) .e) .e))))) .e) .e) .e) .e) (zO (zO (zO (zO (zO .e (zO .e (zO .e (zO .e (zO (zO (zL pI) .e) .e))))) .e) .e) .e) .e)) (zO (zO (zO (zO (zO (zO .e (zO .e (zO .e (zO .e (zO (zO (zL b) .e) .e))))) .e) .e) .e) (zO .e (zO .e (zO .e (zO (zO .e (zO .e (zO .e (zO (zO (zL c) .e) .e)))) .e))))) (zO (zO (zO (zO (zO .e (zO .e (zO .e (zO .e (zO (zO (zL pI) .e) .e))))) .e) .e) .e) (zO (zO (zO .e (zO (zO .e (zO .e (zO .e (zO (zO (zL d) .e) .e)))) .e)) .e) .e))),5059,0⟩
noncomputable abbrev Xz(a b c d:AO):AH:=⟨zO (zO (zO (zO (zO (zO (zO .e (zO .e (zO .e (zO .e (zO (zO (zL a) .e) .e))))) .e) .e) .e) .e) (zO (zO (zO (zO (zO .e (zO .e (zO .e (zO .e (zO (zO (zL pI) .e) .e))))) .e) .e) .e) .e)) (zO (zO (zO (zO (zO (zO .e (zO .e (zO .e (zO .e (zO (zO (zL b) .e) .e))))) .e) .e) .e) (zO .e (zO .e (zO .e (zO (zO .e (zO .e (zO .e (zO (zO (zL c) .e) .e)))) .e))))) (zO .e (zO (zO (zO .e (zO (zO .e (zO .e (zO .e (zO (zO (zL d) .e) .e)))) .e)) .e) .e))),5058,0⟩
noncomputable abbrev Fv(a b c d f:AV):AF:=⟨⟨115,false,none,39⟩,zN (zN (zO .e (zL a)) b (zO .e (zL c))) d (zN (zO .e (zL f)) (.fn 116 [] []) .e),afj,[],false⟩
noncomputable abbrev SI(a:AV):AF:=⟨⟨6,false,none,128⟩,zO (zL a) (zL .aM),afi,[],false⟩
noncomputable abbrev zy(a b c:AV):AF:=⟨⟨6,false,none,128⟩,zO (zO (zO (zL a) .e) (zL b)) (zN .e .aM (zL c)),aaF,[],false⟩
noncomputable abbrev zx(a b c d:AV):AF:=⟨⟨6,false,none,128⟩,zO (zO (zO (zL a) .e) (zL b)) (zN .e .aM (zN (zL c) d .e)),aaE,[],false⟩
noncomputable abbrev Kc(a b c d:AV):AF:=⟨⟨6,false,none,128⟩,zO (zO (zO (zL a) (zL b)) (zL c)) (zN .e .aM (zL d)),aaD,[],false⟩
noncomputable abbrev SH(a:AV):AF:=⟨⟨9,false,none,31⟩,zO (zL a) (zL .aM),afh,[],false⟩
noncomputable abbrev SG(a:AV):AF:=⟨⟨7,false,none,13⟩,zO (zL a) (zL (zI 0)),afg,[],false⟩
noncomputable abbrev OH(a:AV):AF:=⟨⟨8,false,none,67⟩,zO (zL a) (zL (zI 0)),aff,[],false⟩
noncomputable abbrev vU(a b c d:AV):AF:=⟨⟨9,false,none,31⟩,zO (zO .e (zN .e a (zL b))) (zN (zO .e (zL c)) .aM (zO .e (zL d))),afe,[],false⟩
noncomputable abbrev Ka(a b:AV):AF:=⟨⟨18,false,none,52⟩,zO (zO (zL (.bool false)) (zL a)) (zN (zL b) .aM .e),afd,[],false⟩
noncomputable abbrev OG(a b c d:AV):AF:=⟨⟨18,false,none,52⟩,zO (zO (zN .e (.bool false) (zO (zO (zL a) .e) .e)) (zL b)) (zN (zL c) .aM (zO (zO (zO (zL d) .e) .e) .e)),afc,[],false⟩
noncomputable abbrev aaP(a b c:AV):AF:=⟨⟨70,false,none,102⟩,zN (zN (zN (zO (zO (zN (zL (zP 7 1)) (zI 0) .e) (zN (zL (.bool true)) (.agg [.aM,.aM]) .e)) (zN (zN (zL (zP 8 0)) (.iface 260 .nQ) .e) (zI 1) (zL (zP 8 1)))) (.iface 260 .nQ) (zN (zO (zN (zL (zP 6 0)) (zI 0) .e) (zL (zI 0))) (zI 0) (zN (zN (zL (zP 510 2)) (.bV [UK,zI 0]) .e) (.bool false) (zL (.bool true))))) (zI 1) (zO (zN (zO (zN (zL (zI 1)) uT .e) (zN (zL (.str [88])) (.sl 6 0 1 (some 1)) .e)) (zI 0) (zN (zN (zL (.bool false)) uT .e) (.sl 6 0 1 (some 1)) (zL (.bV [LH,.bool true])))) (zN (zN (zN (zL (zP 6 0)) .kH .e) (.bool false) (zL (zP 6 0))) (.bool true) (zN (zN (zL (zI 1)) (zI 0) .e) uT (zL (.bool false)))))) uT (zN (zN (zN (zN (zN (zL (.sl 6 0 1 (some 1))) (.bool false) .e) (.str [88]) (zN (zL (zP 466 0)) (zP 7 1) .e)) .aM (zN (zN (zL (.str [113])) (.bV [UK,zI 0]) .e) (zP 7 1) (zL a))) (zP 7 0) (zN (zN (zN (zL (zP 6 0)) (.bool false) .e) (zI 1) (zL (zP 6 0))) (zP 525 0) (zN (zN (zL (.sl 466 0 1 none)) UK .e) (.bool false) (zL (.bool true))))) b (zN (zN (zO (zN (zL (zI 0)) c .e) (zL (zI 1))) (zP 510 0) (zN (zN (zL (.bool false)) (zI 1) .e) (zI 1) (zL LH))) (zP 8 0) (zN (zN (zN (zL (.str [113])) (.bool true) .e) (.bool false) (zL Jf)) .aM (zN (zN (zL (zI 0)) (.bV [LH,.bool true]) .e) X0 (zL (.bool false)))))),afb,[],false⟩
noncomputable abbrev SF(a b:AV):AF:=⟨⟨10,false,none,99⟩,zO (zN (zO (zL a) .e) .aM .e) (zN (zN (zL (zI 0)) b .e) .kH .e),aaC,[],false⟩
noncomputable abbrev J9(a b c d f g:AV):AF:=⟨⟨10,false,none,99⟩,zO (zO (zO (zO (zL a) .e) (zO .e (zO (zO (zL b) .e) .e))) (zO (zO .e (zO (zO (zL c) .e) .e)) .e)) (zN (zN (zL (zI 0)) d .e) .kH (zO (zO (zL f) (zO (zO (zL g) .e) .e)) .e)),aaB,[],false⟩
noncomputable abbrev Fu(a b c d:AV):AF:=⟨⟨36,false,none,70⟩,zN (zO .e (zL a)) b (zO (zL c) (zL d)),afa,[],false⟩
noncomputable abbrev J8(a b c d f g h i:AV):AF:=⟨⟨36,false,none,70⟩,zN (zO (zO (zL a) (zO (zO .e (zL b)) .e)) (zN (zO (zO .e (zL c)) .e) d .e)) f (zO (zL g) (zN (zO (zO .e (zL h)) .e) i .e)),aaA,[],false⟩
noncomputable abbrev aaO(a b c d f g h:AV):AF:=⟨⟨36,false,none,70⟩,zN (zO (zO (zL (zP 2 0)) (zO (zO .e (zL a)) .e)) (zN (zO (zO .e (zL b)) .e) c .e)) d (zO (zN .e f .e) (zN (zO (zO .e (zL g)) .e) h .e)),aaA,[],false⟩
noncomputable abbrev OE(a b c d:AV):AF:=⟨⟨35,false,none,52⟩,zO (zO .e (zO .e (zL a))) (zO (zN .e b (zL c)) (zO .e (zL d))),ae9,[],false⟩
noncomputable abbrev Iz(a b c d f g h i:AV):AF:=⟨⟨35,false,none,52⟩,zO (zO (zO (zO .e (zL a)) .e) (zN (zO .e (zL b)) c (zL d))) (zO (zN (zO .e (zL f)) g (zL h)) (zO .e (zL i))),ae8,[],false⟩
noncomputable abbrev aaN(a b:AV):AF:=⟨⟨28,false,none,15⟩,zN (zO (zL a) .e) b (zO (zL .aM) .e),[.code (dY f28 [1,0]),.code (dY f28 [1,1])],[],false⟩
noncomputable abbrev XL(a b c:AV):AF:=⟨⟨60,false,none,66⟩,zN (zN .e a (zL b)) c .e,ae7,[],false⟩
noncomputable abbrev SE(a b c d f:AV):AF:=⟨⟨60,false,none,66⟩,zN (zN (zO (zL a) .e) b (zL c)) d (zO .e (zL f)),ae6,[],false⟩
noncomputable abbrev J7(a b c d:AV):AF:=⟨⟨174,false,none,53⟩,zN (zN (zL (.fn 29 [] [])) a .e) b (zN (zO (zL c) .e) d .e),ae5,[],false⟩
noncomputable abbrev J6(a b c d f:AV):AF:=⟨⟨174,false,none,53⟩,zN (zN (zL (.fn 29 [] [])) a (zO (zL b) .e)) c (zN (zO (zL d) .e) f .e),ae4,[],false⟩
noncomputable abbrev OD(a b c d f:AV):AF:=⟨⟨310,false,none,38⟩,zN (zN (zL a) b .e) c (zN (zL (.fn 29 [] [])) d (zO (zL f) .e)),ae3,[],false⟩
noncomputable abbrev OB(a b c d f:AV):AF:=⟨⟨113,false,none,63⟩,zN (zN (zO (zL a) .e) b .e) c (zN (zO (zL d) .e) (.fn 29 [] []) (zL f)),ae2,[],false⟩
noncomputable abbrev J5(a b c:AV):AF:=⟨⟨113,false,none,63⟩,zN (zL a) b (zN .e (.fn 29 [] []) (zL c)),ae1,[],false⟩
noncomputable abbrev J4(a b c d f:AV):AF:=⟨⟨113,false,none,63⟩,zN (zN (zO (zL a) .e) b .e) c (zN (zO (zL d) .e) (.fn 29 [] []) (zL f)),ae0,[],false⟩
noncomputable abbrev Iy(a b c d f g:AV):AF:=⟨⟨175,false,none,220⟩,zN (zN (zN .e a (zL b)) c .e) d (zN (zL (.fn 29 [] [])) f (zO (zL g) .e)),aeZ,[],false⟩
noncomputable abbrev Iw(a b c d f g:AV):AF:=⟨⟨175,false,none,220⟩,zN (zN (zN (zO (zL a) .e) b .e) c .e) d (zN (zL (.fn 29 [] [])) f (zO .e (zL g))),aeY,[],false⟩
noncomputable abbrev OA(a b c d f g h i j:AV):AF:=⟨⟨175,false,none,220⟩,zN (zN (zN .e a (zO (zL b) .e)) c (zO .e (zO (zL d) .e))) f (zN (zN .e (.fn 29 [] []) (zO (zL g) .e)) h (zO (zO (zL i) .e) (zO (zL j) .e))),aeX,[],false⟩
noncomputable abbrev Oz(a b c d f g:AV):AF:=⟨⟨175,false,none,220⟩,zN (zN (zL a) b (zO .e (zL c))) d (zN (zL (.fn 29 [] [])) f (zO (zL g) .e)),aeW,[],false⟩
noncomputable abbrev Oy(a b c d f g:AV):AF:=⟨⟨175,false,none,220⟩,zN (zN (zL a) b (zO (zO (zL c) .e) .e)) d (zN (zL (.fn 29 [] [])) f (zO .e (zL g))),aeV,[],false⟩
noncomputable abbrev Iu(a b c d f g h:AV):AF:=⟨⟨175,false,none,220⟩,zN (zN (zL a) b .e) c (zN (zN (zO .e (zL d)) (.fn 29 [] []) (zO (zL f) .e)) g (zO (zO (zL h) .e) .e)),aeU,[],false⟩
noncomputable abbrev afr(a b c d f g:AV):AF:=⟨⟨175,false,none,220⟩,zN (zN (zL a) b .e) c (zN (zN (zO .e (zL d)) (.fn 29 [] []) .e) f (zO (zO (zL g) .e) .e)),aeT,[],false⟩
noncomputable abbrev Ir(a b c d f g:AV):AF:=⟨⟨250,false,none,58⟩,zN (zN (zN .e a (zL b)) c .e) d (zN (zL (.fn 29 [] [])) f (zO (zL g) .e)),aeS,[],false⟩
noncomputable abbrev J3(a:AV):AF:=⟨⟨56,false,none,19⟩,zN (zN (zL a) (zP 3 0) .e) (.yield 5) .e,aeR,[],false⟩
noncomputable abbrev Ox(a b c:AV):AF:=⟨⟨8,false,some 5,67⟩,zO (zO (zO (zL a) .e) (zN (zL b) (zP 1 0) .e)) (zO (zO (zL c) .e) (zL (zP 2 0))),aeQ,[],false⟩
noncomputable abbrev Ow(a b:AV):AF:=⟨⟨5,false,none,23⟩,zN (zO (zL (zP 5 0)) .e) a (zN (zL b) (zP 0 0) .e),aeP,[],false⟩
noncomputable abbrev XK(a:AV):AF:=⟨⟨5,false,none,23⟩,zN (zO (zL (zP 5 0)) .e) a (zL (zP 0 0)),[.code (dY f5 [1,1,1])],[],false⟩
noncomputable abbrev Ov(a b c:AV):AF:=⟨⟨13,false,none,25⟩,zN (zO (zL a) .e) b (zN (zL c) .aM .e),aeO,[],false⟩
noncomputable abbrev Fq(a b c d f:AV):AF:=⟨⟨53,false,none,36⟩,zN (zN (zO .e (zL a)) b (zO (zL c) .e)) d (zO .e (zO (zL f) .e)),aeN,[],false⟩
noncomputable abbrev Ou(a b c d f:AV):AF:=⟨⟨22,false,none,49⟩,zN (zO .e (zO (zL a) .e)) b (zN (zN (zL c) (zP 0 0) .e) d (zO (zL f) .e)),aeM,[],false⟩
noncomputable abbrev XJ:AF:=⟨⟨3,false,none,150⟩,zN (zL (.bool true)) (.bool false) .e,[.code (dY f3 [1,1])],[],false⟩
noncomputable abbrev XI:AF:=⟨⟨3,false,none,150⟩,zN (zL (.bool true)) (.bool false) (zL (zP 5030 0)),aeL,[],false⟩
noncomputable abbrev XH:AF:=⟨⟨3,false,none,150⟩,zN (zN (zL (zP 5031 0)) (.bool true) .e) (.bool false) (zL (zP 5030 0)),aeK,[],false⟩
noncomputable abbrev XG(a:AV):AF:=⟨⟨3,false,none,150⟩,zN (zN (zL (zP 5031 0)) (.bool true) .e) (.bool false) (zN (zL a) (zP 5030 0) .e),aeJ,[],false⟩
noncomputable abbrev XF(a:AV):AF:=⟨⟨3,false,none,150⟩,zN (zN (zN (zL (zI 2)) (zP 5031 0) .e) (.bool true) (zL (.bool true))) (.bool false) (zN (zN (zL (zI 152)) a .e) (zP 5030 0) (zL (.bool true))),aeI,[],false⟩
noncomputable abbrev XE(a:AV):AF:=⟨⟨3,false,none,150⟩,zN (zN (zO (zL (zI 2)) .e) (.bool true) (zN (zL (zP 5052 0)) (.bool true) .e)) (.bool false) (zN (zN (zL (zI 152)) a (zL (zI 151))) (zP 5030 0) (zN (zL (zI 0)) (.bool true) .e)),aeH,[],false⟩
noncomputable abbrev SB(a:AV):AF:=⟨⟨3,false,none,150⟩,zN (zN (zO (zL (zI 2)) .e) (.bool true) (zN (zL (zP 5052 0)) (.bool true) .e)) (.bool false) (zN (zN (zL (zI 152)) a (zL (zI 151))) (zP 5030 0) (zN (zL (zI 0)) (.bool true) (zL (zI 151)))),aeG,[],false⟩
noncomputable abbrev Ot(a b c:AV):AF:=⟨⟨135,false,none,26⟩,zN (zN .e a (zL b)) c .e,aeF,[],false⟩
noncomputable abbrev Oq(a b c d:AV):AF:=⟨⟨37,false,none,62⟩,zO (zO (zN (zL a) b .e) .e) (zN (zL c) d .e),aeE,[],false⟩
noncomputable abbrev afq(a b c d f g h i j:AV):AF:=⟨⟨3,false,none,150⟩,zN (zN (zO (zN (zN (zO (zO (zL (.bool true)) .e) (zL (zI 2))) (zP 5055 0) (zO (zO (zL (zI 2)) .e) (zL (.bool true)))) (zI 2) (zO (zO (zO (zL (.bool true)) .e) (zL (.bool true))) (zO (zL a) (zL (.bool true))))) (zO (zN (zO (zO (zL (.bool true)) .e) (zL wG)) (zP 5058 0) (zO (zO (zL (zI 1)) .e) (zL (.bool true)))) (zO (zO (zO (zL (zI 65535)) .e) (zL (.bool true))) (zO (zL (.bV [wG,zI 2])) (zL (.bool true)))))) (.bool true) (zN (zN (zN (zO (zO (zL (.bool true)) .e) (zL b)) (zP 5057 0) (zO (zO (zL (.bool true)) .e) (zL (zI 152)))) (zP 5052 0) (zO (zO (zO (zL (.bool true)) .e) (zL (.bool true))) (zO (zL c) (zL d)))) (.bool true) (zO (zO (zO (zO (zL (.bool true)) .e) (zL (.bool true))) (zO (zO (zL (.bool true)) .e) (zL (zI 0)))) (zO (zO (zO (zL (.bool true)) .e) (zL (zI 2))) (zO (zL (.bV [wG,zI 2])) (zL (.bool true))))))) (.bool true) (zN (zN (zN (zN (zO (zO (zL (.bool true)) .e) (zL (.bV [wG,zI 1]))) (zI 0) (zO (zO (zL (.bool true)) .e) (zL (.bool true)))) (zI 152) (zO (zO (zO (zL (.bool true)) .e) (zL (.bool true))) (zO (zL f) (zL (.bool true))))) g (zN (zN (zO (zO (zL (.bool true)) .e) (zL (zI 1))) (zI 1) (zO (zO (zL (.bool true)) .e) (zL (.bool true)))) (zI 151) (zO (zO (zO (zL (.bool true)) .e) (zL (.bool true))) (zO (zL (.sl 5056 0 65537 (some 65537))) (zL (.bool true)))))) (zP 5030 0) (zN (zN (zN (zO (zO (zL (zI 151)) .e) (zL (.bV [wG,zI 1]))) (zI 2) (zO (zO (zL (.bool true)) .e) (zL (.bool true)))) (zI 0) (zO (zO (zO (zL h) .e) (zL (.bool true))) (zO (zL (zI 0)) (zL i)))) (.bool true) (zN (zO (zO (zO (zL (zI 0)) .e) (zL (.bool true))) (zO (zL j) (zL (.bool true)))) (zI 151) (zO (zO (zO (zL (.bool true)) .e) (zL (.bool true))) (zO (zL wG) (zL (zI 151))))))),[.code (dY f3 [1,1,1,1,1,1,1,1,1,1,1,1,1,1,1,1])],[],true⟩
noncomputable abbrev iy(a b:Int)(c:List UInt8)(d e:Int)(f:List UInt8):AH:=(ji (jM a b c) (jM d e f))
noncomputable abbrev lG(a:List UInt8)(b:Option (Nat×Nat))(c d:Nat)(e:List UInt8)(f:Option (Nat×Nat))(g h:Nat):AH:=(ji (lH a b c d) (lH e f g h))
noncomputable abbrev Dm(a b:Nat)(c:List AV)(d:Bool):AH:=(ji (XV a b) (.cells c 56 d false))
noncomputable abbrev lZ(a b:Nat)(c:List AV)(d:Bool):AH:=(ji (OL a b) (.cells c 56 d false))
noncomputable abbrev Dk(a b c d:Nat)(e:Option Nat)(f:List AV)(g:Bool):AH:=(ji (XU a b c d e) (.cells f 56 g false))
noncomputable abbrev lY(a b c d:Nat)(e:Option Nat)(f:List AV)(g:Bool):AH:=(ji (OJ a b c d e) (.cells f 56 g false))
noncomputable abbrev XD(a:Nat):AH:=(lX ZU XR (afk a) XQ (AO.rz false) UH)
noncomputable abbrev uR(a:List AV)(b:Bool):AH:=(aC (.cells a 54 b false))
noncomputable abbrev A9(a b c:Nat):AH:=(afp (kQ a b c) (kQ a b c))
noncomputable abbrev zw(a b c:Nat):AH:=(afo (kQ a b c) (kQ a b c))
noncomputable abbrev yD:AH:=(zu kR mh yL mh kR yK yJ)
noncomputable abbrev qy(d:Nat)(e:Int)(f g:List AV)(h:Bool)(i:List UInt8)(j:Option (Nat×Nat))(k l:Nat)(m:Int)(a:Option (Nat×Nat))(b c:Nat):AH:=(yC (iL d e) (iP f) (.cells g 168 h false) (dR i j k l m a b c) (iL d e))
noncomputable abbrev tF(f:Nat)(g:Int)(h i:List AV)(j:Bool)(k:List AV)(l:Bool)(m:List UInt8)(n:Option (Nat×Nat))(o a:Nat)(b:Int)(c:Option (Nat×Nat))(d e:Nat):AH:=(lX (iL f g) (iP h) (.cells i 94 j false) (.cells k 168 l false) (dR m n o a b c d e) (iL f g))
noncomputable abbrev Fp(a b:List AV)(c:Bool):AH:=(bG (iP a) (.cells b 168 c false) ZT)
noncomputable abbrev Fj(a:Nat)(b:Int)(c d:List AV)(e:Bool):AH:=(iK (iL a b) (iP c) (.cells d 168 e false) ZT)
noncomputable abbrev Fh(a b:List AV)(c:Bool):AH:=(iK ZT (iP a) (.cells b 168 c false) ZT)
noncomputable abbrev SA(a b c:Nat)(d:Int):AF:=(vU .aM (zI (↑a:Int)) (.aO (some (b,0)) a c) (zI d))
noncomputable abbrev Sz(a:Nat)(b:Int)(c:Nat):AF:=(XL (.fn 61 [] [.ptr (OLD+a) 0]) (zI b) (.sl 0 0 c none))
noncomputable abbrev Sy(c:Int)(d:Nat)(e:Int)(a b:Nat):AF:=(SE (zI c) (.fn 61 [] [.ptr (OLD+d) 0]) (zI e) (.sl 0 0 a none) (.sl 0 (b*2) (a - b) none))
noncomputable abbrev J2(a b c d:Int)(e:Nat)(f g h i:Int):AF:=(OA (zI a) (zI b) (zI c) (zI d) (.sl 0 0 e none) (zI f) (zI g) (zI h) (zI i))
noncomputable abbrev Iq(a b:Int)(c:Nat)(d e f:Int):AF:=(afr (zI a) (zI b) (.sl 0 0 c none) (zI d) (zI e) (zI f))
noncomputable abbrev vS(b a c d:Nat)(e:List AV)(f:Int):AH:=(lX (Av b a c) (zA a) (Xy a b c d) (oZ e) (AO.rz false) (pJ f))
noncomputable abbrev nu(b a c d:Nat)(e:List AV)(f:Int):AH:=(lX (Av b a c) (zA a) (JW a b c d) (oZ e) (AO.rz false) (pJ f))
noncomputable abbrev jG(g:List UInt8)(h:Option (Nat×Nat))(i j:Nat)(k:Int)(l:Option (Nat×Nat))(m n:Nat)(o:List UInt8)(p:Option (Nat×Nat))(a b:Nat)(c:Int)(d:Option (Nat×Nat))(e f:Nat):AH:=(ji (dR g h i j k l m n) (dR o p a b c d e f))
noncomputable abbrev jF(a:List UInt8)(b:Option (Nat×Nat))(c d:Nat)(e:Int)(f:Option (Nat×Nat))(g h:Nat):AH:=(aC (dR a b c d e f g h))
noncomputable abbrev Oo(b:Int)(c d a e f:Nat)(g:Int):AF:=(Ou (zI b) (.aO (some (c,d)) a e) (zI (↑a:Int)) (.fn 23 [] [.ptr (OLD+f) 0]) (zI g))
noncomputable abbrev mG(c:Option (Nat×Nat))(d e:Nat)(f:Option (Nat×Nat))(g h:Nat)(i:Option (Nat×Nat))(j k:Nat)(l:Option (Nat×Nat))(a b:Nat):AH:=(afl (dh c d e f g h) (dh i j k l a b))
noncomputable abbrev ni(a:Option (Nat×Nat))(b c:Nat)(d:Option (Nat×Nat))(e f:Nat):List AV:=[.aO a b c,.aO d e f]
section
variable{P:Program}{f f':AF}{h h':AH}{obs:List Prop}
theorem xR{E:Env}{t e:TypeId}{z:Nat}(f:E.d t=some (.slice e))(g:(E.tt.get e).map (·.size)=some z)(hp:E.peek=true){b o n c:Nat}{i:Int}(h0:0<=i)(h1:i<n):
 aR E t (l9 E (.aO (some (b,o)) n c)) (zI i)=some (.ptr (OLD+b) (o+i.toNat*z)):=by
 obtain⟨a,h,rfl⟩:=aN.1 g;show aR E t (cond E.peek (cond (Nat.beq n 0) .emp (.sl (OLD+b) o n (some c))) .any) (zI i)=_;rw[hp,show Nat.beq n 0=false by cases n with |zero=>omega|succ n=>rfl];unfold aR;rw[f];show(match E.tt.get e with |some a=>cond (decide (0<=i∧i<n)) (some (AV.ptr (OLD+b) (o+i.toNat*a.size))) none|none=>none)=_;rw[h];show cond (decide (0<=i∧i<n)) _ _=_;rw[aA ⟨h0,h1⟩];rfl
theorem KM{E:Env}(F:Fits P E)(FF:dM P E)(l:List Kk)(e:sj P E l f h=some (f',h',obs))(H:All obs):DoesS P E f h f' h':=path_ok F FF l f h e H
end
section
variable{n x:Nat}
abbrev TT:Prop:=some true=some true
abbrev BT(b:Bool):Prop:=some (AV.bool b)=some (AV.bool true)
abbrev BF(b:Bool):Prop:=some (AV.bool b)=some (AV.bool false)
theorem zc{a b:Bool}(h:a=b):some (AV.bool a)=some (AV.bool b):=by rw[h]
abbrev IX(old:Old)(t b e n c:Nat)(i:Int)(z:Nat):Prop:=aR (E.wo old) t (l9 (E.wo old) (.aO (some (b,e)) n c)) (zI i)=some (zP (1152921504606846976+b) (e+i.toNat*z))
abbrev LD(old:Old)(h:AH)(t b o:Nat)(v:AV):Prop:=loadT (E.wo old) h t (1152921504606846976+b) o=some v
abbrev RX(old:Old)(g:Nat)(a:List AV)(v:AV):Prop:=∀h:AH,Nat.ble h.nx OLD=true->h.df=0->DoesC Tryz.prog (E.wo old) g a h v h
abbrev zB(t:Nat)(vs:List AV):AH:=⟨(zL (.cells vs t true false)),1,0⟩
abbrev Lp(f:Func)(p q:List Nat)(n:Nat):List AI:=[.code (dY f p),.inLoop (dY f p),.inBlock n,.code (dY f q)]
abbrev Fm(g nt:Nat)(t:Tr AV)(l:List AI):AF:=⟨⟨g,false,none,nt⟩,t,l,[],false⟩
theorem Qc{a b:Bool}(h:a=b):some (AV.bool a)=some (AV.bool b):=by rw[h]
theorem x23(old:Old)(b o c:Nat){i:Int}(h0:0<=i)(h1:i<n):aR (E.wo old) 23 (l9 (E.wo old) (.aO (some (b,o)) n c)) (zI i)=some (zP (1152921504606846976+b) (o+i.toNat*3)):=xR (e:=94) (by kernel_rfl) (by kernel_rfl) rfl h0 h1
theorem x55(old:Old)(b o c:Nat){i:Int}(h0:0<=i)(h1:i<n):aR (E.wo old) 55 (l9 (E.wo old) (.aO (some (b,o)) n c)) (zI i)=some (zP (1152921504606846976+b) (o+i.toNat*1)):=xR (e:=3) (by kernel_rfl) (by kernel_rfl) rfl h0 h1
theorem y26(old:Old)(b:Nat)(c:Option Nat){j:Int}(h0:j=(↑x:Int))(h1:x<n):aR (E.wo old) 26 (l9 (E.wo old) (.sl b 0 n c)) (zI j)=some (zP b (x*4)):=jf (e:=28) (by kernel_rfl) (by kernel_rfl) h0 h1
theorem yF(old:Old)(b:Nat)(c:Option Nat){j:Int}(h0:j=(↑x:Int))(h1:x<n):aR (E.wo old) 33 (l9 (E.wo old) (.sl b 0 n c)) (zI j)=some (zP b (x*2)):=jf (e:=25) (by kernel_rfl) (by kernel_rfl) h0 h1
theorem y51(old:Old)(b:Nat)(c:Option Nat){j:Int}(h0:j=(↑x:Int))(h1:x<n):aR (E.wo old) 51 (l9 (E.wo old) (.sl b 0 n c)) (zI j)=some (zP b (x*1)):=jf (e:=54) (by kernel_rfl) (by kernel_rfl) h0 h1
theorem Yi(old:Old)(b:Nat)(c:Option Nat){j:Int}(h0:j=(↑x:Int))(h1:x<n):aR (E.wo old) 55 (l9 (E.wo old) (.sl b 0 n c)) (zI j)=some (zP b (x*1)):=jf (e:=3) (by kernel_rfl) (by kernel_rfl) h0 h1
theorem y59(old:Old)(b:Nat)(c:Option Nat){j:Int}(h0:j=(↑x:Int))(h1:x<n):aR (E.wo old) 59 (l9 (E.wo old) (.sl b 0 n c)) (zI j)=some (zP b (x*1)):=jf (e:=56) (by kernel_rfl) (by kernel_rfl) h0 h1
theorem agT(old:Old)(b:Nat)(c:Option Nat){j:Int}(h0:j=(↑x:Int))(h1:x<n):aR (E.wo old) 169 (l9 (E.wo old) (.sl b 0 n c)) (zI j)=some (zP b (x*2)):=jf (e:=168) (by kernel_rfl) (by kernel_rfl) h0 h1
end
def aL(a b:Int):Int:=if a<b then -1 else if a>b then 1 else 0
def kN(s t:List UInt8):Int:=Extern.BytealgCompare.cmp ⟨s.toArray⟩ ⟨t.toArray⟩
def dQ(a b:Int):Int:=if a=0 then b else a
def Jd(v w:PV):Int:=dQ (aL v.k w.k) (dQ (aL v.m w.m) (kN v.s w.s))
def rA:List PV->List PV->Int
 |[],[]=>0
 |[],_::_=> -1
 |_::_,[]=>1
 |v::l,w::m=>dQ (Jd v w) (rA l m)
def Us(r1:List UInt8)(a:List PV)(r2:List UInt8)(b:List PV):Int:=dQ (kN r1 r2) (rA a b)
section
variable(Y:Fe)(Z:Ge)
include Y Z
theorem abh(old:Old)(F:Fw old)(FF:Gw old)(a b:Int)(c:(a !=a)=false)(o2:(b !=b)=false)(d:(decide (a<b))=true):DR old (ent (E.wo old) 52 [zI a,zI b]) ⟨.e,0,0⟩ (zI (-1)) ⟨.e,0,0⟩:=
 prt F FF (Qk 7 (DoesC.of_run F FF (n:=3000) (p:=((.bool (a !=a)),⟨.e,0,0⟩)) (by kernel_rfl):DC old 111 [zI a] ⟨.e,0,0⟩ (.bool (a !=a)) ⟨.e,0,0⟩) (Qb 0 c (Qk 4 (DoesC.of_run F FF (n:=3000) (p:=((.bool (b !=b)),⟨.e,0,0⟩)) (by kernel_rfl):DC old 111 [zI b] ⟨.e,0,0⟩ (.bool (b !=b)) ⟨.e,0,0⟩) (Qb 0 o2 (Qb 20 d (Qn 7)))))) (by kernel_rfl)
theorem VO(old:Old)(F:Fw old)(FF:Gw old)(a b:Int)(c:(a !=a)=false)(o2:(b !=b)=false)(d:(decide (a<b))=true):DC old 52 [zI a,zI b] ⟨.e,0,0⟩ (zI (-1)) ⟨.e,0,0⟩:=
 DoesC.drop (DoesC.ent FF (by kernel_rfl) (abh Y Z old F FF a b c o2 d)) [] (by kernel_rfl) (by kernel_rfl) (by kernel_rfl) rfl (by kernel_rfl) (by kernel_rfl) (by kernel_rfl)
theorem abg(old:Old)(F:Fw old)(FF:Gw old)(a b:Int)(c:(a !=a)=false)(o2:(b !=b)=false)(d:(decide (a<b))=false)(f:(decide (a>b))=true):DR old (ent (E.wo old) 52 [zI a,zI b]) ⟨.e,0,0⟩ (zI 1) ⟨.e,0,0⟩:=
 prt F FF (Qk 7 (DoesC.of_run F FF (n:=3000) (p:=((.bool (a !=a)),⟨.e,0,0⟩)) (by kernel_rfl):DC old 111 [zI a] ⟨.e,0,0⟩ (.bool (a !=a)) ⟨.e,0,0⟩) (Qb 0 c (Qk 4 (DoesC.of_run F FF (n:=3000) (p:=((.bool (b !=b)),⟨.e,0,0⟩)) (by kernel_rfl):DC old 111 [zI b] ⟨.e,0,0⟩ (.bool (b !=b)) ⟨.e,0,0⟩) (Qb 0 o2 (Qb 20 d (Qb 8 f (Qn 7))))))) (by kernel_rfl)
theorem VN(old:Old)(F:Fw old)(FF:Gw old)(a b:Int)(c:(a !=a)=false)(o2:(b !=b)=false)(d:(decide (a<b))=false)(f:(decide (a>b))=true):DC old 52 [zI a,zI b] ⟨.e,0,0⟩ (zI 1) ⟨.e,0,0⟩:=
 DoesC.drop (DoesC.ent FF (by kernel_rfl) (abg Y Z old F FF a b c o2 d f)) [] (by kernel_rfl) (by kernel_rfl) (by kernel_rfl) rfl (by kernel_rfl) (by kernel_rfl) (by kernel_rfl)
theorem abf(old:Old)(F:Fw old)(FF:Gw old)(a b:Int)(c:(a !=a)=false)(o2:(b !=b)=false)(d:(decide (a<b))=false)(f:(decide (a>b))=false):DR old (ent (E.wo old) 52 [zI a,zI b]) ⟨.e,0,0⟩ (zI 0) ⟨.e,0,0⟩:=
 prt F FF (Qk 7 (DoesC.of_run F FF (n:=3000) (p:=((.bool (a !=a)),⟨.e,0,0⟩)) (by kernel_rfl):DC old 111 [zI a] ⟨.e,0,0⟩ (.bool (a !=a)) ⟨.e,0,0⟩) (Qb 0 c (Qk 4 (DoesC.of_run F FF (n:=3000) (p:=((.bool (b !=b)),⟨.e,0,0⟩)) (by kernel_rfl):DC old 111 [zI b] ⟨.e,0,0⟩ (.bool (b !=b)) ⟨.e,0,0⟩) (Qb 0 o2 (Qb 20 d (Qb 8 f (Qn 8))))))) (by kernel_rfl)
theorem VL(old:Old)(F:Fw old)(FF:Gw old)(a b:Int)(c:(a !=a)=false)(o2:(b !=b)=false)(d:(decide (a<b))=false)(f:(decide (a>b))=false):DC old 52 [zI a,zI b] ⟨.e,0,0⟩ (zI 0) ⟨.e,0,0⟩:=
 DoesC.drop (DoesC.ent FF (by kernel_rfl) (abf Y Z old F FF a b c o2 d f)) [] (by kernel_rfl) (by kernel_rfl) (by kernel_rfl) rfl (by kernel_rfl) (by kernel_rfl) (by kernel_rfl)
end
section
variable{P:Program}{args:List AV}{g:FuncId}{h:AH}{v:AV}
theorem DoesC.ov{E:Env}(C:DoesC P E g args eH v eH)(b:AV.dX 0 args=true)(c:v.low 0=true)(a:h.df=0)(d:Nat.ble h.nx OLD=true):DoesC P E g args h v h:=DoesC.over C b c a (aF d)
theorem xA(a:Int):(a !=a)=false:=by simp
section
variable(W:Fe)(Y:Ge)(Z:Old)(F:Fw Z)(X:Gw Z)
include W Y F X
theorem C9(a b:Int):DC Z 52 [zI a,zI b] eH (zI (aL a b)) eH:=by
 unfold aL;split
 .rename_i h;exact VO W Y Z F X a b (xA a) (xA b) (aA h)
 .rename_i h
  split
  .rename_i c;exact VN W Y Z F X a b (xA a) (xA b) (aD h) (aA c)
  .rename_i c;exact VL W Y Z F X a b (xA a) (xA b) (aD h) (aD c)
end
end
section
variable(Y:Fe)(Z:Ge)
include Y Z
section
variable(R:Old)(F:Fw R)(Q:Gw R)(W S X T:Int)(U V:List UInt8)
include R F Q W S X T U V
theorem KR(a:(aL W X !=0)=true):DR R (ent (E.wo R) 51 [.sl 2 0 3 (some 3)]) (bG (jM X T V) (jM W S U) (.cells [zI (aL W X),zI (aL S T),zI (cmX U V)] 3 false false)) (zI (aL W X)) (bG (jM X T V) (jM W S U) (.cells [zI (aL W X),zI (aL S T),zI (cmX U V)] 3 false false)):=
 prt F Q (Qb 36 a (Qn 8)) (by kernel_rfl)
theorem KQ(a:(aL W X !=0)=false)(o2:(aL S T !=0)=true):DR R (ent (E.wo R) 51 [.sl 2 0 3 (some 3)]) (bG (jM X T V) (jM W S U) (.cells [zI (aL W X),zI (aL S T),zI (cmX U V)] 3 false false)) (zI (aL S T)) (bG (jM X T V) (jM W S U) (.cells [zI (aL W X),zI (aL S T),zI (cmX U V)] 3 false false)):=
 prt F Q (Qb 36 a (Qb 28 o2 (Qn 8))) (by kernel_rfl)
theorem KP(a:(aL W X !=0)=false)(o2:(aL S T !=0)=false)(b:(cmX U V !=0)=true):DR R (ent (E.wo R) 51 [.sl 2 0 3 (some 3)]) (bG (jM X T V) (jM W S U) (.cells [zI (aL W X),zI (aL S T),zI (cmX U V)] 3 false false)) (zI (cmX U V)) (bG (jM X T V) (jM W S U) (.cells [zI (aL W X),zI (aL S T),zI (cmX U V)] 3 false false)):=
 prt F Q (Qb 36 a (Qb 28 o2 (Qb 28 b (Qn 8)))) (by kernel_rfl)
theorem KO(a:(aL W X !=0)=false)(o2:(aL S T !=0)=false)(b:(cmX U V !=0)=false):DR R (ent (E.wo R) 51 [.sl 2 0 3 (some 3)]) (bG (jM X T V) (jM W S U) (.cells [zI (aL W X),zI (aL S T),zI (cmX U V)] 3 false false)) (zI 0) (bG (jM X T V) (jM W S U) (.cells [zI (aL W X),zI (aL S T),zI (cmX U V)] 3 false false)):=
 prt F Q (Qb 36 a (Qb 28 o2 (Qb 28 b (Qn 22)))) (by kernel_rfl)
theorem abm(a:(aL W X !=0)=true):DR R (ent (E.wo R) 116 [zF W S U,zF X T V]) ⟨.e,0,0⟩ (zI (aL W X)) (bG (jM X T V) (jM W S U) (.cells [zI (aL W X),zI (aL S T),zI (cmX U V)] 3 false false)):=
 prt F Q (Qd 7 [.c,.c,.c,.c,.k (zI (aL W X)) (iy X T V W S U),.c,.c,.c,.c,.k (zI (aL S T)) (iy X T V W S U),.c,.c,.c,.c,.k (zI (cmX U V)) (iy X T V W S U),.c,.k (zI (aL W X)) (bG (jM X T V) (jM W S U) (.cells [zI (aL W X),zI (aL S T),zI (cmX U V)] 3 false false)),.c] (Qp (DoesC.ov (C9 Y Z R F Q W X) rfl rfl rfl (by kernel_rfl):DC R 52 [zI W,zI X] (iy X T V W S U) (zI (aL W X)) (iy X T V W S U)) (Qp (DoesC.ov (C9 Y Z R F Q S T) rfl rfl rfl (by kernel_rfl):DC R 52 [zI S,zI T] (iy X T V W S U) (zI (aL S T)) (iy X T V W S U)) (Qp (DoesC.of_run F Q (n:=3000) (p:=((zI (cmX U V)),(iy X T V W S U))) (by kernel_rfl):DC R 62 [.str U,.str V] (iy X T V W S U) (zI (cmX U V)) (iy X T V W S U)) (Qp (DoesC.ent Q (by kernel_rfl) (KR Y Z R F Q W S X T U V a):DC R 51 [.sl 2 0 3 (some 3)] (bG (jM X T V) (jM W S U) (.cells [zI (aL W X),zI (aL S T),zI (cmX U V)] 3 false false)) (zI (aL W X)) (bG (jM X T V) (jM W S U) (.cells [zI (aL W X),zI (aL S T),zI (cmX U V)] 3 false false))) (Qs (.str V) (Qs (.str V) (Qs (.str V) (Qs (.str U) (Qs (.str U) (Qs (.str U) (Qs (zI T) (Qs (zI T) (Qs (zI S) (Qs (zI S) (Qs (zI X) (Qs (zI W) (Qn 1)))))))))))))))))) (by kernel_rfl)
end
theorem VT(old:Old)(F:Fw old)(FF:Gw old)(k1 m1 k2 m2:Int)(s1 s2:List UInt8)(a:(aL k1 k2 !=0)=true):DC old 116 [zF k1 m1 s1,zF k2 m2 s2] ⟨.e,0,0⟩ (zI (aL k1 k2)) ⟨.e,0,0⟩:=
 DoesC.drop (DoesC.ent FF (by kernel_rfl) (abm Y Z old F FF k1 m1 k2 m2 s1 s2 a)) [] (by kernel_rfl) (by kernel_rfl) (by kernel_rfl) rfl (by kernel_rfl) (by kernel_rfl) (by kernel_rfl)
theorem abl(old:Old)(F:Fw old)(FF:Gw old)(k1 m1 k2 m2:Int)(s1 s2:List UInt8)(a:(aL k1 k2 !=0)=false)(o2:(aL m1 m2 !=0)=true):DR old (ent (E.wo old) 116 [zF k1 m1 s1,zF k2 m2 s2]) ⟨.e,0,0⟩ (zI (aL m1 m2)) (bG (jM k2 m2 s2) (jM k1 m1 s1) (.cells [zI (aL k1 k2),zI (aL m1 m2),zI (cmX s1 s2)] 3 false false)):=
 prt F FF (Qd 7 [.c,.c,.c,.c,.k (zI (aL k1 k2)) (iy k2 m2 s2 k1 m1 s1),.c,.c,.c,.c,.k (zI (aL m1 m2)) (iy k2 m2 s2 k1 m1 s1),.c,.c,.c,.c,.k (zI (cmX s1 s2)) (iy k2 m2 s2 k1 m1 s1),.c,.k (zI (aL m1 m2)) (bG (jM k2 m2 s2) (jM k1 m1 s1) (.cells [zI (aL k1 k2),zI (aL m1 m2),zI (cmX s1 s2)] 3 false false)),.c] (Qp (DoesC.ov (C9 Y Z old F FF k1 k2) rfl rfl rfl (by kernel_rfl):DC old 52 [zI k1,zI k2] (iy k2 m2 s2 k1 m1 s1) (zI (aL k1 k2)) (iy k2 m2 s2 k1 m1 s1)) (Qp (DoesC.ov (C9 Y Z old F FF m1 m2) rfl rfl rfl (by kernel_rfl):DC old 52 [zI m1,zI m2] (iy k2 m2 s2 k1 m1 s1) (zI (aL m1 m2)) (iy k2 m2 s2 k1 m1 s1)) (Qp (DoesC.of_run F FF (n:=3000) (p:=((zI (cmX s1 s2)),(iy k2 m2 s2 k1 m1 s1))) (by kernel_rfl):DC old 62 [.str s1,.str s2] (iy k2 m2 s2 k1 m1 s1) (zI (cmX s1 s2)) (iy k2 m2 s2 k1 m1 s1)) (Qp (DoesC.ent FF (by kernel_rfl) (KQ Y Z old F FF k1 m1 k2 m2 s1 s2 a o2):DC old 51 [.sl 2 0 3 (some 3)] (bG (jM k2 m2 s2) (jM k1 m1 s1) (.cells [zI (aL k1 k2),zI (aL m1 m2),zI (cmX s1 s2)] 3 false false)) (zI (aL m1 m2)) (bG (jM k2 m2 s2) (jM k1 m1 s1) (.cells [zI (aL k1 k2),zI (aL m1 m2),zI (cmX s1 s2)] 3 false false))) (Qs (.str s2) (Qs (.str s2) (Qs (.str s2) (Qs (.str s1) (Qs (.str s1) (Qs (.str s1) (Qs (zI m2) (Qs (zI m2) (Qs (zI m1) (Qs (zI m1) (Qs (zI k2) (Qs (zI k1) (Qn 1)))))))))))))))))) (by kernel_rfl)
theorem VR(old:Old)(F:Fw old)(FF:Gw old)(k1 m1 k2 m2:Int)(s1 s2:List UInt8)(a:(aL k1 k2 !=0)=false)(o2:(aL m1 m2 !=0)=true):DC old 116 [zF k1 m1 s1,zF k2 m2 s2] ⟨.e,0,0⟩ (zI (aL m1 m2)) ⟨.e,0,0⟩:=
 DoesC.drop (DoesC.ent FF (by kernel_rfl) (abl Y Z old F FF k1 m1 k2 m2 s1 s2 a o2)) [] (by kernel_rfl) (by kernel_rfl) (by kernel_rfl) rfl (by kernel_rfl) (by kernel_rfl) (by kernel_rfl)
theorem abk(old:Old)(F:Fw old)(FF:Gw old)(k1 m1 k2 m2:Int)(s1 s2:List UInt8)(a:(aL k1 k2 !=0)=false)(o2:(aL m1 m2 !=0)=false)(b:(cmX s1 s2 !=0)=true):DR old (ent (E.wo old) 116 [zF k1 m1 s1,zF k2 m2 s2]) ⟨.e,0,0⟩ (zI (cmX s1 s2)) (bG (jM k2 m2 s2) (jM k1 m1 s1) (.cells [zI (aL k1 k2),zI (aL m1 m2),zI (cmX s1 s2)] 3 false false)):=
 prt F FF (Qd 7 [.c,.c,.c,.c,.k (zI (aL k1 k2)) (iy k2 m2 s2 k1 m1 s1),.c,.c,.c,.c,.k (zI (aL m1 m2)) (iy k2 m2 s2 k1 m1 s1),.c,.c,.c,.c,.k (zI (cmX s1 s2)) (iy k2 m2 s2 k1 m1 s1),.c,.k (zI (cmX s1 s2)) (bG (jM k2 m2 s2) (jM k1 m1 s1) (.cells [zI (aL k1 k2),zI (aL m1 m2),zI (cmX s1 s2)] 3 false false)),.c] (Qp (DoesC.ov (C9 Y Z old F FF k1 k2) rfl rfl rfl (by kernel_rfl):DC old 52 [zI k1,zI k2] (iy k2 m2 s2 k1 m1 s1) (zI (aL k1 k2)) (iy k2 m2 s2 k1 m1 s1)) (Qp (DoesC.ov (C9 Y Z old F FF m1 m2) rfl rfl rfl (by kernel_rfl):DC old 52 [zI m1,zI m2] (iy k2 m2 s2 k1 m1 s1) (zI (aL m1 m2)) (iy k2 m2 s2 k1 m1 s1)) (Qp (DoesC.of_run F FF (n:=3000) (p:=((zI (cmX s1 s2)),(iy k2 m2 s2 k1 m1 s1))) (by kernel_rfl):DC old 62 [.str s1,.str s2] (iy k2 m2 s2 k1 m1 s1) (zI (cmX s1 s2)) (iy k2 m2 s2 k1 m1 s1)) (Qp (DoesC.ent FF (by kernel_rfl) (KP Y Z old F FF k1 m1 k2 m2 s1 s2 a o2 b):DC old 51 [.sl 2 0 3 (some 3)] (bG (jM k2 m2 s2) (jM k1 m1 s1) (.cells [zI (aL k1 k2),zI (aL m1 m2),zI (cmX s1 s2)] 3 false false)) (zI (cmX s1 s2)) (bG (jM k2 m2 s2) (jM k1 m1 s1) (.cells [zI (aL k1 k2),zI (aL m1 m2),zI (cmX s1 s2)] 3 false false))) (Qs (.str s2) (Qs (.str s2) (Qs (.str s2) (Qs (.str s1) (Qs (.str s1) (Qs (.str s1) (Qs (zI m2) (Qs (zI m2) (Qs (zI m1) (Qs (zI m1) (Qs (zI k2) (Qs (zI k1) (Qn 1)))))))))))))))))) (by kernel_rfl)
theorem VQ(old:Old)(F:Fw old)(FF:Gw old)(k1 m1 k2 m2:Int)(s1 s2:List UInt8)(a:(aL k1 k2 !=0)=false)(o2:(aL m1 m2 !=0)=false)(b:(cmX s1 s2 !=0)=true):DC old 116 [zF k1 m1 s1,zF k2 m2 s2] ⟨.e,0,0⟩ (zI (cmX s1 s2)) ⟨.e,0,0⟩:=
 DoesC.drop (DoesC.ent FF (by kernel_rfl) (abk Y Z old F FF k1 m1 k2 m2 s1 s2 a o2 b)) [] (by kernel_rfl) (by kernel_rfl) (by kernel_rfl) rfl (by kernel_rfl) (by kernel_rfl) (by kernel_rfl)
theorem abj(old:Old)(F:Fw old)(FF:Gw old)(k1 m1 k2 m2:Int)(s1 s2:List UInt8)(a:(aL k1 k2 !=0)=false)(o2:(aL m1 m2 !=0)=false)(b:(cmX s1 s2 !=0)=false):DR old (ent (E.wo old) 116 [zF k1 m1 s1,zF k2 m2 s2]) ⟨.e,0,0⟩ (zI 0) (bG (jM k2 m2 s2) (jM k1 m1 s1) (.cells [zI (aL k1 k2),zI (aL m1 m2),zI (cmX s1 s2)] 3 false false)):=
 prt F FF (Qd 7 [.c,.c,.c,.c,.k (zI (aL k1 k2)) (iy k2 m2 s2 k1 m1 s1),.c,.c,.c,.c,.k (zI (aL m1 m2)) (iy k2 m2 s2 k1 m1 s1),.c,.c,.c,.c,.k (zI (cmX s1 s2)) (iy k2 m2 s2 k1 m1 s1),.c,.k (zI 0) (bG (jM k2 m2 s2) (jM k1 m1 s1) (.cells [zI (aL k1 k2),zI (aL m1 m2),zI (cmX s1 s2)] 3 false false)),.c] (Qp (DoesC.ov (C9 Y Z old F FF k1 k2) rfl rfl rfl (by kernel_rfl):DC old 52 [zI k1,zI k2] (iy k2 m2 s2 k1 m1 s1) (zI (aL k1 k2)) (iy k2 m2 s2 k1 m1 s1)) (Qp (DoesC.ov (C9 Y Z old F FF m1 m2) rfl rfl rfl (by kernel_rfl):DC old 52 [zI m1,zI m2] (iy k2 m2 s2 k1 m1 s1) (zI (aL m1 m2)) (iy k2 m2 s2 k1 m1 s1)) (Qp (DoesC.of_run F FF (n:=3000) (p:=((zI (cmX s1 s2)),(iy k2 m2 s2 k1 m1 s1))) (by kernel_rfl):DC old 62 [.str s1,.str s2] (iy k2 m2 s2 k1 m1 s1) (zI (cmX s1 s2)) (iy k2 m2 s2 k1 m1 s1)) (Qp (DoesC.ent FF (by kernel_rfl) (KO Y Z old F FF k1 m1 k2 m2 s1 s2 a o2 b):DC old 51 [.sl 2 0 3 (some 3)] (bG (jM k2 m2 s2) (jM k1 m1 s1) (.cells [zI (aL k1 k2),zI (aL m1 m2),zI (cmX s1 s2)] 3 false false)) (zI 0) (bG (jM k2 m2 s2) (jM k1 m1 s1) (.cells [zI (aL k1 k2),zI (aL m1 m2),zI (cmX s1 s2)] 3 false false))) (Qs (.str s2) (Qs (.str s2) (Qs (.str s2) (Qs (.str s1) (Qs (.str s1) (Qs (.str s1) (Qs (zI m2) (Qs (zI m2) (Qs (zI m1) (Qs (zI m1) (Qs (zI k2) (Qs (zI k1) (Qn 1)))))))))))))))))) (by kernel_rfl)
theorem VP(old:Old)(F:Fw old)(FF:Gw old)(k1 m1 k2 m2:Int)(s1 s2:List UInt8)(a:(aL k1 k2 !=0)=false)(o2:(aL m1 m2 !=0)=false)(b:(cmX s1 s2 !=0)=false):DC old 116 [zF k1 m1 s1,zF k2 m2 s2] ⟨.e,0,0⟩ (zI 0) ⟨.e,0,0⟩:=
 DoesC.drop (DoesC.ent FF (by kernel_rfl) (abj Y Z old F FF k1 m1 k2 m2 s1 s2 a o2 b)) [] (by kernel_rfl) (by kernel_rfl) (by kernel_rfl) rfl (by kernel_rfl) (by kernel_rfl) (by kernel_rfl)
end
theorem AY{a:Int}(h:¬a=0):(a !=0)=true:=by simpa using h
theorem tC{a:Int}(h:a=0):(a !=0)=false:=by simpa using h
section
variable(W:Fe)(Y:Ge)(Z:Old)(F:Fw Z)(X:Gw Z)
include W Y F X
theorem c131(k1 a b c:Int)(d e:List UInt8):DC Z 116 [zF k1 a d,zF b c e] eH (zI (dQ (aL k1 b) (dQ (aL a c) (kN d e)))) eH:=by
 unfold dQ;by_cases h1:aL k1 b=0
 .rw[aH h1]
  by_cases f:aL a c=0
  .rw[aH f]
   by_cases g:kN d e=0
   .rw[g];exact VP W Y Z F X k1 a b c d e (tC h1) (tC f) (tC g)
   .exact VQ W Y Z F X k1 a b c d e (tC h1) (tC f) (AY g)
  .rw[au f];exact VR W Y Z F X k1 a b c d e (tC h1) (AY f)
 .rw[au h1];exact VT W Y Z F X k1 a b c d e (AY h1)
end
section
variable(Y:Fe)(Z:Ge)
include Y Z
section
variable(X:Old)(F:Fw X)(L:Gw X)(P Q N O:Nat)(n m c d:Nat)(i:Int)(U V R S:Int)(W T:List UInt8)(M:0<=i)(C:i<n)(D:i<m)(G:∀h,loadT (E.wo X) h 94 (OLD+P) (Q+i.toNat*3)=some (zF U V W))(H:∀h,loadT (E.wo X) h 94 (OLD+N) (O+i.toNat*3)=some (zF R S T))(J:(decide (i<(↑n:Int)))=true)(K:(decide (i≥(↑m:Int)))=false)
include X F L P Q N O n m c d i U V R S W T M C D G H J K
theorem abb(a:(dQ (aL U R) (dQ (aL V S) (kN W T))!=0)=true):DR X (Fv (.aO (some (P,Q)) n c) (.aO (some (N,O)) m d) (zI i) (.aO (some (P,Q)) n c) (zI (↑n:Int))) ⟨.e,0,0⟩ (zI (dQ (aL U R) (dQ (aL V S) (kN W T)))) (iy R S T U V W):=
 prt F L (Qb 2 J (Qv 9 (x23 X P Q c M C) (Qv 0 (G ⟨.e,0,0⟩) (Qb 10 K (Qv 7 (x23 X N O d M D) (Qv 0 (H (aC (jM U V W))) (Qk 8 (DoesC.ov (c131 Y Z X F L U V R S W T) rfl rfl rfl (by kernel_rfl):DC X 116 [zF U V W,zF R S T] (iy R S T U V W) (zI (dQ (aL U R) (dQ (aL V S) (kN W T)))) (iy R S T U V W)) (Qb 5 a (Qn 8))))))))) (by kernel_rfl)
theorem aa9(a:(dQ (aL U R) (dQ (aL V S) (kN W T))!=0)=false):DS X (Fv (.aO (some (P,Q)) n c) (.aO (some (N,O)) m d) (zI i) (.aO (some (P,Q)) n c) (zI (↑n:Int))) ⟨.e,0,0⟩ (Fv (.aO (some (P,Q)) n c) (.aO (some (N,O)) m d) (zI (IntKind.i64.wrap (i+1))) (.aO (some (P,Q)) n c) (zI (↑n:Int))) (iy R S T U V W):=
 jK F L [0,1,2,11,12,13] (Qb 2 J (Qv 9 (x23 X P Q c M C) (Qv 0 (G ⟨.e,0,0⟩) (Qb 10 K (Qv 7 (x23 X N O d M D) (Qv 0 (H (aC (jM U V W))) (Qk 8 (DoesC.ov (c131 Y Z X F L U V R S W T) rfl rfl rfl (by kernel_rfl):DC X 116 [zF U V W,zF R S T] (iy R S T U V W) (zI (dQ (aL U R) (dQ (aL V S) (kN W T)))) (iy R S T U V W)) (Qb 5 a (Qn 9))))))))) (by kernel_rfl)
end
section
variable(X:Old)(F:Fw X)(W:Gw X)
include X F W
theorem ac2(a1 a2:Nat)(b:Option (Nat×Nat))(n m c d:Nat)(i:Int)(k1 m1:Int)(s1:List UInt8)(h0:0<=i)(h1:i<n)(h2:(m:Int)<=i)(hL:∀h,loadT (E.wo X) h 94 (OLD+a1) (a2+i.toNat*3)=some (zF k1 m1 s1))(o1:(decide (i<(↑n:Int)))=true)(o2:(decide (i≥(↑m:Int)))=true):DR X (Fv (.aO (some (a1,a2)) n c) (.aO b m d) (zI i) (.aO (some (a1,a2)) n c) (zI (↑n:Int))) ⟨.e,0,0⟩ (zI 1) (aC (jM k1 m1 s1)):=
 prt F W (Qb 2 o1 (Qv 9 (x23 X a1 a2 c h0 h1) (Qv 0 (hL ⟨.e,0,0⟩) (Qb 10 o2 (Qn 7))))) (by kernel_rfl)
theorem YF(a b:Option (Nat×Nat))(n m c d:Nat)(i:Int)(o1:(decide (i<(↑n:Int)))=false)(o2:(decide ((↑n:Int)<(↑m:Int)))=true):DR X (Fv (.aO a n c) (.aO b m d) (zI i) (.aO a n c) (zI (↑n:Int))) ⟨.e,0,0⟩ (zI (-1)) ⟨.e,0,0⟩:=
 prt F W (Qb 2 o1 (Qb 11 o2 (Qn 7))) (by kernel_rfl)
theorem YE(a b:Option (Nat×Nat))(n m c d:Nat)(i:Int)(o1:(decide (i<(↑n:Int)))=false)(o2:(decide ((↑n:Int)<(↑m:Int)))=false):DR X (Fv (.aO a n c) (.aO b m d) (zI i) (.aO a n c) (zI (↑n:Int))) ⟨.e,0,0⟩ (zI 0) ⟨.e,0,0⟩:=
 prt F W (Qb 2 o1 (Qb 11 o2 (Qn 8))) (by kernel_rfl)
theorem ac1(a b:Option (Nat×Nat))(n m c d:Nat):DS X (ent (E.wo X) 115 [.aO a n c,.aO b m d,.fn 116 [] []]) ⟨.e,0,0⟩ (Fv (.aO a n c) (.aO b m d) (zI 0) (.aO a n c) (zI (↑n:Int))) ⟨.e,0,0⟩:=
 jK F W [0,1,2,11,12,13] (Qn 13) (by kernel_rfl)
end
end
section
variable{b i:Nat}{v:AV}
def Suf(old:Old)(a:Option (Nat×Nat))(i:Nat)(r:List PV):Prop:=r=[]∨∃b o,a=some (b,o)∧iI old b (o+i*3) (r.length*3)=some (fD r)
theorem iM.suf{old:Old}{l:List PV}(h:iM old v l):∃a c,v= .aO a l.length c∧Suf old a 0 l:=by
 rcases h with⟨b,o,c,rfl,e⟩|⟨rfl,h0,h1⟩
 .exact⟨_,_,rfl,.inr ⟨b,o,rfl,by rw[jJ];exact e⟩⟩
 .exact⟨none,0,by rw[h0],.inl (bB.1 h0)⟩
theorem Suf.next{old:Old}{a:Option (Nat×Nat)}{x:PV}{r:List PV}(h:Suf old a i (x::r)):∃b o,a=some (b,o)∧iI old b (o+i*3) 3=some x.cells∧Suf old a (i+1) r:=by
 rcases h with h|⟨b,o,rfl,e⟩
 .cases h
 .rw[show(x::r).length*3=3+r.length*3 by simp;omega]at e
  obtain⟨c,d,f,h1,g,j⟩:=rG e;have:=List.append_inj (s₁:=x.cells) (t₁:=fD r) (s₂:=c) (t₂:=d) f (by rw[h1];rfl);obtain⟨rfl,rfl⟩:=this;exact⟨b,o,rfl,g,.inr ⟨b,o,rfl,by rw[show o+(i+1)*3=o+i*3+3 by omega];exact j⟩⟩
theorem yN{old:Old}{o:Nat}{x:PV}(h:iI old b o 3=some x.cells)(hp:AH):loadT (E.wo old) hp 94 (OLD+b) o=some (.agg [zI x.k,zI x.m,.str x.s]):=
 rR (E:=E.wo old) (t:=94) (ti:=(E.tt.get 94).getD default) (by kernel_rfl) (by kernel_rfl) (by rw[show((E.tt.get 94).getD default).size=3 by kernel_rfl];exact h)
theorem QN(h:i<=268435456):IntKind.i64.wrap ((↑i:Int)+1)=(↑(i+1):Int):=by
 unfold IntKind.wrap;simp[IntKind.signed,IntKind.bits];omega
noncomputable def acQ(a:Option (Nat×Nat))(n c:Nat)(b:Option (Nat×Nat))(m d:Nat)(i:Int):AF:=(Fv (.aO a n c) (.aO b m d) (zI i) (.aO a n c) (zI ((↑n:Int))))
section
variable(W:Fe)(Y:Ge)(Z:Old)(F:Fw Z)(X:Gw Z)
include W Y F X
theorem RA(a:Option (Nat×Nat))(n c:Nat)(b:Option (Nat×Nat))(m d:Nat)(t:n<=268435456):∀(r1 r2:List PV) (i:Nat),Suf Z a i r1->Suf Z b i r2->n=i+r1.length->m=i+r2.length->mO prog (E.wo Z) (acQ a n c b m d (↑i:Int)) (zI (rA r1 r2))
 |[],[],i,j,l,h1,e=>mO.it (YE W Y Z F X a b n m c d (↑i:Int) (aD (by simp at h1;omega)) (aD (by simp at h1 e;omega))) (by kernel_rfl) rfl
 |[],y::r2,i,j,l,h1,e=>mO.it (YF W Y Z F X a b n m c d (↑i:Int) (aD (by simp at h1;omega)) (aA (by simp at h1 e;omega))) (by kernel_rfl) rfl
 |x::r1,[],i,j,l,h1,e=>by
  obtain⟨f,g,rfl,e1,_⟩:=j.next
  exact mO.it (ac2 W Y Z F X f g b n m c d (↑i:Int) x.k x.m x.s (by omega) (by simp at h1;omega) (by simp at e;omega) (λh=>by rw[bN];exact yN e1 h) (aA (by simp at h1;omega)) (aA (by simp at e;show(m:Int)<=i;omega))) (by kernel_rfl) rfl
 |x::r1,y::r2,i,j,l,h1,e=>by
  obtain⟨f,g,rfl,e1,u⟩:=j.next
  obtain⟨o,o2,rfl,e2,v⟩:=l.next
  have l1:∀h,loadT (E.wo Z) h 94 (OLD+f) (g+(↑i:Int).toNat*3)=some (.agg [zI x.k,zI x.m,.str x.s]):=λh=>by rw[bN];exact yN e1 h
  have l2:∀h,loadT (E.wo Z) h 94 (OLD+o) (o2+(↑i:Int).toNat*3)=some (.agg [zI y.k,zI y.m,.str y.s]):=λh=>by rw[bN];exact yN e2 h
  have p:(↑i:Int)<(↑n:Int):=by simp at h1;omega
  have r:(↑i:Int)<(↑m:Int):=by simp at e;omega
  show mO _ _ _ (zI (dQ (Jd x y) (rA r1 r2)));by_cases q:Jd x y=0
  .have A:=aa9 W Y Z F X f g o o2 n m c d (↑i:Int) x.k x.m y.k y.m x.s y.s (by omega) p r l1 l2 (aA p) (aD (by omega)) (tC q)
   rw[QN (by simp at h1;omega)]at A;have B:=RA (some (f,g)) n c (some (o,o2)) m d t r1 r2 (i+1) u v (by simp at h1;omega) (by simp at e;omega);rw[show dQ (Jd x y) (rA r1 r2)=rA r1 r2 by unfold dQ;rw[aH q]];exact mO.of (A.aeA rfl (by kernel_rfl) (AF.jd (by kernel_rfl)) (AF.jd (by kernel_rfl))) B
  .rw[show dQ (Jd x y) (rA r1 r2)=Jd x y by unfold dQ;rw[au q]]
   exact mO.it (abb W Y Z F X f g o o2 n m c d (↑i:Int) x.k x.m y.k y.m x.s y.s (by omega) p r l1 l2 (aA p) (aD (by omega)) (AY q)) (by kernel_rfl) rfl
theorem c130{w:AV}{l m:List PV}(e:iM Z v l)(f:iM Z w m)(g:l.length<=268435456):DC Z 115 [v,w,.fn 116 [] []] eH (zI (rA l m)) eH:=by
 obtain⟨a,c,rfl,h⟩:=e.suf;obtain⟨b,d,rfl,i⟩:=f.suf;exact DoesC.ofV X (by kernel_rfl) (mO.of (ac1 W Y Z F X a b l.length m.length c d) (RA W Y Z F X a l.length c b m.length d g l m 0 h i (by omega) (by omega))) rfl rfl
end
end
section
variable(Y:Fe)(Z:Ge)
include Y Z
section
variable(X:Old)(F:Fw X)(U:Gw X)(a b:Option (Nat×Nat))(n c m d:Nat)(V W:List UInt8)(z:Int)(T:DC X 63 (ni a n c b m d) eH (zI z) eH)
include X F U a b n c m d V W z T
theorem MP(e:(cmX V W !=0)=true):DR X (ent (E.wo X) 51 [.sl 2 0 2 (some 2)]) (bG (lH W b m d) (lH V a n c) (.cells [zI (cmX V W),zI z] 3 false false)) (zI (cmX V W)) (bG (lH W b m d) (lH V a n c) (.cells [zI (cmX V W),zI z] 3 false false)):=
 prt F U (Qb 36 e (Qn 8)) (by kernel_rfl)
theorem MO(e:(cmX V W !=0)=false)(o2:(z !=0)=true):DR X (ent (E.wo X) 51 [.sl 2 0 2 (some 2)]) (bG (lH W b m d) (lH V a n c) (.cells [zI (cmX V W),zI z] 3 false false)) (zI z) (bG (lH W b m d) (lH V a n c) (.cells [zI (cmX V W),zI z] 3 false false)):=
 prt F U (Qb 36 e (Qb 28 o2 (Qn 8))) (by kernel_rfl)
theorem MN(e:(cmX V W !=0)=false)(o2:(z !=0)=false):DR X (ent (E.wo X) 51 [.sl 2 0 2 (some 2)]) (bG (lH W b m d) (lH V a n c) (.cells [zI (cmX V W),zI z] 3 false false)) (zI 0) (bG (lH W b m d) (lH V a n c) (.cells [zI (cmX V W),zI z] 3 false false)):=
 prt F U (Qb 36 e (Qb 28 o2 (Qn 22))) (by kernel_rfl)
end
theorem p78(old:Old)(F:Fw old)(FF:Gw old)(a b:Option (Nat×Nat))(n c m d:Nat)(z:Int)(hC:DC old 115 [.aO a n c,.aO b m d,.fn 116 [] []] eH (zI z) eH):DR old (ent (E.wo old) 63 (ni a n c b m d)) ⟨.e,0,0⟩ (zI z) ⟨.e,0,0⟩:=
 prt F FF (Qk 8 (DoesC.ov hC rfl rfl rfl (by kernel_rfl):DC old 115 [.aO a n c,.aO b m d,.fn 116 [] []] ⟨.e,0,0⟩ (zI z) ⟨.e,0,0⟩) (Qn 3)) (by kernel_rfl)
theorem adh(old:Old)(F:Fw old)(FF:Gw old)(a b:Option (Nat×Nat))(n c m d:Nat)(z:Int)(hC:DC old 115 [.aO a n c,.aO b m d,.fn 116 [] []] eH (zI z) eH):DC old 63 (ni a n c b m d) ⟨.e,0,0⟩ (zI z) ⟨.e,0,0⟩:=
 DoesC.drop (DoesC.ent FF (by kernel_rfl) (p78 Y Z old F FF a b n c m d z hC )) [] (by kernel_rfl) (by kernel_rfl) (by kernel_rfl) rfl (by kernel_rfl) (by kernel_rfl) (by kernel_rfl)
theorem adn(old:Old)(F:Fw old)(FF:Gw old)(a b:Option (Nat×Nat))(n c m d:Nat)(r1 r2:List UInt8)(z:Int)(hC:DC old 63 (ni a n c b m d) eH (zI z) eH)(f:(cmX r1 r2 !=0)=true):DR old (ent (E.wo old) 29 [mK r1 a n c,mK r2 b m d]) ⟨.e,0,0⟩ (zI (cmX r1 r2)) (bG (lH r2 b m d) (lH r1 a n c) (.cells [zI (cmX r1 r2),zI z] 3 false false)):=
 prt F FF (Qd 7 [.c,.c,.c,.c,.k (zI (cmX r1 r2)) (lG r2 b m d r1 a n c),.c,.c,.c,.c,.k (zI z) (lG r2 b m d r1 a n c),.c,.k (zI (cmX r1 r2)) (bG (lH r2 b m d) (lH r1 a n c) (.cells [zI (cmX r1 r2),zI z] 3 false false)),.c] (Qp (DoesC.of_run F FF (n:=3000) (p:=((zI (cmX r1 r2)),(lG r2 b m d r1 a n c))) (by kernel_rfl):DC old 62 [.str r1,.str r2] (lG r2 b m d r1 a n c) (zI (cmX r1 r2)) (lG r2 b m d r1 a n c)) (Qp (DoesC.ov hC rfl rfl rfl (by kernel_rfl):DC old 63 (ni a n c b m d) (lG r2 b m d r1 a n c) (zI z) (lG r2 b m d r1 a n c)) (Qp (DoesC.ent FF (by kernel_rfl) (MP Y Z old F FF a b n c m d r1 r2 z hC f):DC old 51 [.sl 2 0 2 (some 2)] (bG (lH r2 b m d) (lH r1 a n c) (.cells [zI (cmX r1 r2),zI z] 3 false false)) (zI (cmX r1 r2)) (bG (lH r2 b m d) (lH r1 a n c) (.cells [zI (cmX r1 r2),zI z] 3 false false))) (Qs (.aO b m d) (Qs (.aO b m d) (Qs (.aO a n c) (Qs (.aO a n c) (Qs (.str r2) (Qs (.str r1) (Qn 1))))))))))) (by kernel_rfl)
theorem YK(old:Old)(F:Fw old)(FF:Gw old)(a b:Option (Nat×Nat))(n c m d:Nat)(r1 r2:List UInt8)(z:Int)(hC:DC old 63 (ni a n c b m d) eH (zI z) eH)(f:(cmX r1 r2 !=0)=true):DC old 29 [mK r1 a n c,mK r2 b m d] ⟨.e,0,0⟩ (zI (cmX r1 r2)) ⟨.e,0,0⟩:=
 DoesC.drop (DoesC.ent FF (by kernel_rfl) (adn Y Z old F FF a b n c m d r1 r2 z hC f)) [] (by kernel_rfl) (by kernel_rfl) (by kernel_rfl) rfl (by kernel_rfl) (by kernel_rfl) (by kernel_rfl)
theorem adl(old:Old)(F:Fw old)(FF:Gw old)(a b:Option (Nat×Nat))(n c m d:Nat)(r1 r2:List UInt8)(z:Int)(hC:DC old 63 (ni a n c b m d) eH (zI z) eH)(f:(cmX r1 r2 !=0)=false)(o2:(z !=0)=true):DR old (ent (E.wo old) 29 [mK r1 a n c,mK r2 b m d]) ⟨.e,0,0⟩ (zI z) (bG (lH r2 b m d) (lH r1 a n c) (.cells [zI (cmX r1 r2),zI z] 3 false false)):=
 prt F FF (Qd 7 [.c,.c,.c,.c,.k (zI (cmX r1 r2)) (lG r2 b m d r1 a n c),.c,.c,.c,.c,.k (zI z) (lG r2 b m d r1 a n c),.c,.k (zI z) (bG (lH r2 b m d) (lH r1 a n c) (.cells [zI (cmX r1 r2),zI z] 3 false false)),.c] (Qp (DoesC.of_run F FF (n:=3000) (p:=((zI (cmX r1 r2)),(lG r2 b m d r1 a n c))) (by kernel_rfl):DC old 62 [.str r1,.str r2] (lG r2 b m d r1 a n c) (zI (cmX r1 r2)) (lG r2 b m d r1 a n c)) (Qp (DoesC.ov hC rfl rfl rfl (by kernel_rfl):DC old 63 (ni a n c b m d) (lG r2 b m d r1 a n c) (zI z) (lG r2 b m d r1 a n c)) (Qp (DoesC.ent FF (by kernel_rfl) (MO Y Z old F FF a b n c m d r1 r2 z hC f o2):DC old 51 [.sl 2 0 2 (some 2)] (bG (lH r2 b m d) (lH r1 a n c) (.cells [zI (cmX r1 r2),zI z] 3 false false)) (zI z) (bG (lH r2 b m d) (lH r1 a n c) (.cells [zI (cmX r1 r2),zI z] 3 false false))) (Qs (.aO b m d) (Qs (.aO b m d) (Qs (.aO a n c) (Qs (.aO a n c) (Qs (.str r2) (Qs (.str r1) (Qn 1))))))))))) (by kernel_rfl)
theorem YJ(old:Old)(F:Fw old)(FF:Gw old)(a b:Option (Nat×Nat))(n c m d:Nat)(r1 r2:List UInt8)(z:Int)(hC:DC old 63 (ni a n c b m d) eH (zI z) eH)(f:(cmX r1 r2 !=0)=false)(o2:(z !=0)=true):DC old 29 [mK r1 a n c,mK r2 b m d] ⟨.e,0,0⟩ (zI z) ⟨.e,0,0⟩:=
 DoesC.drop (DoesC.ent FF (by kernel_rfl) (adl Y Z old F FF a b n c m d r1 r2 z hC f o2)) [] (by kernel_rfl) (by kernel_rfl) (by kernel_rfl) rfl (by kernel_rfl) (by kernel_rfl) (by kernel_rfl)
theorem adk(old:Old)(F:Fw old)(FF:Gw old)(a b:Option (Nat×Nat))(n c m d:Nat)(r1 r2:List UInt8)(z:Int)(hC:DC old 63 (ni a n c b m d) eH (zI z) eH)(f:(cmX r1 r2 !=0)=false)(o2:(z !=0)=false):DR old (ent (E.wo old) 29 [mK r1 a n c,mK r2 b m d]) ⟨.e,0,0⟩ (zI 0) (bG (lH r2 b m d) (lH r1 a n c) (.cells [zI (cmX r1 r2),zI z] 3 false false)):=
 prt F FF (Qd 7 [.c,.c,.c,.c,.k (zI (cmX r1 r2)) (lG r2 b m d r1 a n c),.c,.c,.c,.c,.k (zI z) (lG r2 b m d r1 a n c),.c,.k (zI 0) (bG (lH r2 b m d) (lH r1 a n c) (.cells [zI (cmX r1 r2),zI z] 3 false false)),.c] (Qp (DoesC.of_run F FF (n:=3000) (p:=((zI (cmX r1 r2)),(lG r2 b m d r1 a n c))) (by kernel_rfl):DC old 62 [.str r1,.str r2] (lG r2 b m d r1 a n c) (zI (cmX r1 r2)) (lG r2 b m d r1 a n c)) (Qp (DoesC.ov hC rfl rfl rfl (by kernel_rfl):DC old 63 (ni a n c b m d) (lG r2 b m d r1 a n c) (zI z) (lG r2 b m d r1 a n c)) (Qp (DoesC.ent FF (by kernel_rfl) (MN Y Z old F FF a b n c m d r1 r2 z hC f o2):DC old 51 [.sl 2 0 2 (some 2)] (bG (lH r2 b m d) (lH r1 a n c) (.cells [zI (cmX r1 r2),zI z] 3 false false)) (zI 0) (bG (lH r2 b m d) (lH r1 a n c) (.cells [zI (cmX r1 r2),zI z] 3 false false))) (Qs (.aO b m d) (Qs (.aO b m d) (Qs (.aO a n c) (Qs (.aO a n c) (Qs (.str r2) (Qs (.str r1) (Qn 1))))))))))) (by kernel_rfl)
theorem YI(old:Old)(F:Fw old)(FF:Gw old)(a b:Option (Nat×Nat))(n c m d:Nat)(r1 r2:List UInt8)(z:Int)(hC:DC old 63 (ni a n c b m d) eH (zI z) eH)(f:(cmX r1 r2 !=0)=false)(o2:(z !=0)=false):DC old 29 [mK r1 a n c,mK r2 b m d] ⟨.e,0,0⟩ (zI 0) ⟨.e,0,0⟩:=
 DoesC.drop (DoesC.ent FF (by kernel_rfl) (adk Y Z old F FF a b n c m d r1 r2 z hC f o2)) [] (by kernel_rfl) (by kernel_rfl) (by kernel_rfl) rfl (by kernel_rfl) (by kernel_rfl) (by kernel_rfl)
end
section
variable{v:AV}
section
variable(W:Fe)(Y:Ge)(Z:Old)(F:Fw Z)(X:Gw Z)
include W Y F X
theorem c49{w:AV}{r1 r2:List UInt8}{l m:List PV}(f:iM Z v l)(g:iM Z w m)(i:l.length<=268435456):DC Z 29 [.agg [.str r1,v],.agg [.str r2,w]] eH (zI (Us r1 l r2 m)) eH:=by
 obtain⟨a,c,rfl, -⟩:=f.suf;obtain⟨b,d,rfl, -⟩:=g.suf;have e:=adh W Y Z F X a b l.length c m.length d (rA l m) (c130 W Y Z F X f g i);unfold Us;by_cases h1:kN r1 r2=0
 .rw[show dQ (kN r1 r2) (rA l m)=rA l m by unfold dQ;rw[aH h1]]
  by_cases h:rA l m=0
  .rw[h]at e ⊢
   exact YI W Y Z F X a b l.length c m.length d r1 r2 0 e (tC h1) rfl
  .exact YJ W Y Z F X a b l.length c m.length d r1 r2 _ e (tC h1) (AY h)
 .rw[show dQ (kN r1 r2) (rA l m)=kN r1 r2 by unfold dQ;rw[au h1]]
  exact YK W Y Z F X a b l.length c m.length d r1 r2 _ e (AY h1)
end
end
theorem gL{E:Env}{t e:TypeId}{z:Nat}(a:E.d t=some (.slice e))(f:(E.tt.get e).map (·.size)=some z)(hp:E.peek=true){b o n c:Nat}{i:Int}{x:Nat}(g:i=(↑x:Int))(lx:x<n):
 aR E t (l9 E (.aO (some (b,o)) n c)) (zI i)=some (.ptr (OLD+b) (o+x*z)):=by
 subst g;have:=xR a f hp (b:=b) (o:=o) (c:=c) (i:=(↑x:Int)) (by omega) (by omega:(↑x:Int)<n);rwa[bN]at this
end Go.Ev
