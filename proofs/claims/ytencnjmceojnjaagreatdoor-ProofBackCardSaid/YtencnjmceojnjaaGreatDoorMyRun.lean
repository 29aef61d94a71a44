/- A part of the proof that ProofBack returns true. -/
import Derived.Test.YtencnjmceojnjaaGreatDoorMyUP1
import Derived.Test.YtencnjmceojnjaaGreatDoorMyUP2
import Derived.Test.YtencnjmceojnjaaGreatDoorMyUP3
import Derived.Test.YtencnjmceojnjaaGreatDoorMyUP4
import Derived.Test.YtencnjmceojnjaaGreatDoorMyUP5
import Derived.Test.YtencnjmceojnjaaGreatDoorMyUP6
import Derived.Test.YtencnjmceojnjaaGreatDoorMyUP7
import Derived.Test.YtencnjmceojnjaaGreatDoorMyUP8
import Derived.Test.YtencnjmceojnjaaGreatDoorMyUP9
import Derived.Test.YtencnjmceojnjaaGreatDoorMyUP10
import Derived.Test.YtencnjmceojnjaaGreatDoorMyEv4
import Derived.Test.YtencnjmceojnjaaGreatDoorMyGr1
import Derived.Test.YtencnjmceojnjaaGreatDoorMyGr6
import Derived.ChangeSame
import Derived.SizedLaws
set_option linter.all false
namespace Go.Ev
open Go.Proofs Go.Proofs.Tryz
set_option maxRecDepth 100000
theorem afy(w:World)(a:Nat):Path prog (E.at w) I 145 283 out (ZO a) (WS a):= .trans (.run 100000 51 rfl) (.gc [13,3,9,14,12] (afL w a))
theorem afx(w:World)(a:Nat):Path prog (E.at w) I 145 283 out (WS a) (WR a):= .trans (.run 100000 201 rfl) (.gc [292,275,286,283,903,12,226,3,9,13,284,251,274,293,253,14,273,285,278,295] (afK w a))
theorem afw(w:World)(a:Nat):Path prog (E.at w) I 145 283 out (WR a) (WQ a):= .trans (.run 100000 110 rfl) (.gc [292,275,286,283,903,12,226,3,9,13,906,284,251,274,293,253,14,273,904,285,278,911,295] (afJ w a))
theorem afv(w:World)(a:Nat):Path prog (E.at w) I 145 283 out (WQ a) (WO a):= .trans (.run 100000 74 rfl) (.gc [911,1468,1177,1471,1472,1467,1470,1469,275,292,286,283,903,12,226,3,9,13,906,284,251,274,293,253,14,273,904,285,278,295] (afI w a))
theorem afu(w:World)(a:Nat):Path prog (E.at w) I 145 283 out (WO a) (WM a):=by
 obtain⟨s,h1,b⟩:=aP.1 (afH w a);exact .trans (.spawn 100000 100000 h1) (.gc [911,1468,1177,1471,1472,1467,1470,1469,275,292,286,283,903,12,226,3,9,13,906,284,251,274,293,253,14,273,904,285,278,295] b)
theorem aft(w:World)(a:Nat):Path prog (E.at w) I 145 283 out (WM a) (WL a):= .trans (.run 100000 283 rfl) (.gc [911,1845,1838,1848,1849,1844,1847,1846,1416,1455,1833,1829,275,279,910,263,1183,295,1812,1837,1836,916,274,1817,1177,1461,292,286,283,903,12,226,3,9,13,906,284,251,293,253,14,273,904,285,278] (afG w a))
theorem afs(w:World)(a:Nat):Path prog (E.at w) I 145 283 out (WL a) (WJ a):=by
 obtain⟨s,h1,b⟩:=aP.1 (afF w a);exact .trans (.spawn 100000 100000 h1) (.gc [911,1845,1838,1848,1849,1844,1847,1846,1416,1455,1833,1829,275,279,910,263,1183,295,1812,1837,1836,916,274,1817,1177,1461,292,286,283,903,12,226,3,9,13,906,284,251,293,253,14,273,904,285,278] b)
theorem afr(w:World)(a:Nat):Path prog (E.at w) I 145 283 out (WJ a) (WI a):= .trans (.run 100000 331 rfl) (.gc [292,275,911,286,283,903,12,226,3,9,13,906,284,251,274,293,253,14,273,904,285,278,295] (afE w a))
theorem afq(w:World)(a:Nat):Path prog (E.at w) I 145 283 out (WI a) (WH a):= .trans (.run 100000 32 rfl) (.gc [275,3,9,3506,13,12,4863,4864] (afD w a))
theorem aeg(w:World)(a:Nat):Path prog (E.at w) I 145 283 out (WH a) (G7 a):= .trans (.run 100000 85 rfl) (.gc [] (aek w a))
theorem Z4(w:World)(a:Nat):Path prog (E.at w) I 145 283 out (ZO a) (G7 a):= .trans (afy w a) (.trans (afx w a) (.trans (afw w a) (.trans (afv w a) (.trans (afu w a) (.trans (aft w a) (.trans (afs w a) (.trans (afr w a) (.trans (afq w a) (aeg w a)))))))))
section
open Go.Conc.Lib (WgLib WgLink)
variable{ca kc kn n na:Nat}{pa pk:Option (Nat×Nat)}{rel:List UInt8}{rule:Int}
theorem Uk{v:Value}{a:Option (Nat×Nat)}{c:Nat}(h:RV dR (.aO a n c) v):DU v=some (.aO a n c):=by
 unfold RV at h;obtain⟨s,rfl,b,h0,d⟩:=h;cases a with
 |none=>obtain⟨rfl,rfl⟩:=h0 rfl;rfl
 |some p=>simp only[kD,DU];rw[aC ⟨b,d⟩]
def P9(W:World)(cs:List AV)(t:T):Prop:=∀w1:World,(∀b,b<W.heap.size->w1.heap[b]? =W.heap[b]?)->mF (uN w1) cs [t]
theorem bk_run(X:xZ prog E I)(k:∀old,xZ prog (E.wo old) I)(d:∀w,wM (E.at w) I=true){L:WgLink}(H:WgLib prog L)(l:L.done=145)(m:L.tWg=283)(W:World)(args:Array Value){t:T}
 (g:dS dR [kR rel pa na ca rule pk kn kc] args.toList)(q:P9 W [.str rel,.aO pa na ca,zI rule,.aO pk kn kc] t)(h:t.DX)(i:t.Iz):
 ∃M b o w' n,runNT prog (M+1) (Conc.solo (Conc.G (Frame.enter prog 3 args .normal) []) W) #[]=(.ended o w',n)∧runN prog M (Conc.solo (Conc.G (Frame.enter prog 3 args .normal) []) W)= .next b∧step prog b= .ended o w'∧Conc.Good prog (Ends W (.bool true)) b o w' n:=by
 refine the_run3 (E:=E) (I:=I) (L:=L) (out:=out) (fid:=3) (f0:=ent E 3 [kR rel pa na ca rule pk kn kc]) X k d H (λ_ _=>rfl) (by kernel_rfl) (gd0 X.F X.FF rel pa na ca rule pk kn kc) rfl (aJ rfl) (by kernel_rfl) (by kernel_rfl) rfl rfl W args g ?_;intro w1 c j;have a:∀x∈[AV.str rel,.aO pa na ca,zI rule,.aO pk kn kc],AV.low 0 x=true:=by
  intro x p;simp only[ay,av,aU]at p;rcases p with rfl|rfl|rfl|rfl<;>rfl
 obtain⟨v0,r,t0⟩:=j.cells 0 [.str rel,.aO pa na ca,zI rule,.aO pk kn kc] 27 false false rfl a 0 _ rfl;obtain⟨v1,s,t1⟩:=j.cells 0 [.str rel,.aO pa na ca,zI rule,.aO pk kn kc] 27 false false rfl a 1 _ rfl;obtain⟨v2,g2,t2⟩:=j.cells 0 [.str rel,.aO pa na ca,zI rule,.aO pk kn kc] 27 false false rfl a 2 _ rfl;obtain⟨v3,u,t3⟩:=j.cells 0 [.str rel,.aO pa na ca,zI rule,.aO pk kn kc] 27 false false rfl a 3 _ rfl;have v:uN w1 (c 0) 0=some (.str rel):=OZ (E:=E) r (by unfold RV at t0;rw[t0];rfl);have e1:uN w1 (c 0) 1=some (.aO pa na ca):=OZ (E:=E) s (Uk t1);have e2:uN w1 (c 0) 2=some (zI rule):=OZ (E:=E) g2 (by unfold RV at t2;rw[t2];rfl);have y:uN w1 (c 0) 3=some (.aO pk kn kc):=OZ (E:=E) u (Uk t3);have z:iI (uN w1) (c 0) 0 4=some [.str rel,.aO pa na ca,zI rule,.aO pk kn kc]:=by
  simp only[iI,v,fA,e1,e2,y]
 have P:=Z4 w1 (c 0);rw[← l,← m]at P;refine⟨_,P,rfl,?_⟩;show jo prog E (uN w1) (G7 (c 0)).f ⟨.e,5030,0⟩ _;have K:=DoesS.keep (P:=prog) (E:=E.wo (uN w1)) [1,2,3] (DoesS.refl (G7 (c 0)).f (⟨.e,5030,0⟩:AH));have e:Xt [1,2,3] (G7 (c 0)).f=bkF (c 0):=by kernel_rfl
 rw[e]at K;exact jo.of K (dF rfl) λ_ _=>bk_head X.F X.FF (λold=>(k old).F) (λold=>(k old).FF) z (q w1 j.old) h i
end
section
open Go.ChangeShapes
theorem cells_at{w:World}{a:Addr}{n:Nat}{cs:List Value}(h:w.cells? 0 a n=some cs):cs.length=n∧∀i,i<n->w.cell? (a.add i)=cs[i]? :=by
 unfold World.cells? at h;rw[aC (bK _)]at h;exact⟨by simpa using mapM_some_length h,λi hi=>mapM_some_get h i i (by simp[hi])⟩
theorem XQ(b o i:Nat):(⟨b,o,none⟩:Addr).add i=⟨b,o+i,none⟩:=by
 unfold Addr.add;split
 .subst_vars;rfl
 .rfl
theorem Xo{α:Type}{Q:Nat->α->Prop}:∀n,(∀i,i<n->∃v,Q i v)->∃l:List α,l.length=n∧∀i v,l[i]? =some v->Q i v
 |0,_=>⟨[],rfl,λi v e=>by cases e⟩
 |n+1,h=>by
  obtain⟨l,a,b⟩:=Xo n λi hi=>h i (by omega);obtain⟨v,c⟩:=h n (by omega);refine⟨l++[v],by simp[a],λi u e=>?_⟩;rcases aT i l.length with hi|hi
  .rw[aW hi]at e;exact b i u e
  .rw[bD hi]at e
   cases hj:i - l.length with
   |zero=>
    rw[hj]at e;cases e;obtain rfl:i=n:=by omega
    exact c
   |succ k=>rw[hj]at e;cases e
theorem Rx{α:Type}{enc:α->List AV}{z:Nat}(c:∀a,(enc a).length=z){old:Old}{b:Nat}:∀(l:List α) (o:Nat),(∀i v,l[i]? =some v->∀j a,(enc v)[j]? =some a->old b (o+i*z+j)=some a)->∀i a,(l.flatMap enc)[i]? =some a->old b (o+i)=some a
 |[],_,_,i,a,e=>by cases e
 |v::l,o,h,i,a,e=>by
  rw[yH]at e;rcases aT i (enc v).length with hi|hi
  .rw[aW hi]at e
   have:=h 0 v rfl i a e;rwa[jl,Nat.add_zero]at this
  .rw[bD hi,c]at e
   rw[c]at hi;have:=Rx c l (o+z) (λi v d j a f=>by
    have:=h (i+1) v (by simpa using d) j a f;rw[nX,Nat.one_mul]at this;rwa[show o+z+i*z+j=o+(i*z+z)+j by omega]) (i - z) a e
   rwa[show o+z+(i - z)=o+i by omega]at this
theorem YZ{W w1:World}(d:∀b,b<W.heap.size->w1.heap[b]? =W.heap[b]?){a:Addr}{v:Value}(h:W.cell? a=some v):w1.cell? a=some v:=by
 unfold World.cell? at h ⊢;cases c:W.heap[a.block]? with
 |none=>rw[c]at h;cases h
 |some ob=>rw[d a.block (aV.1 c).1,c];rw[c]at h;exact h
section
variable{H:Type}{P:Program}
def Sm(P:Program)(t:TypeId)(d:DataW H):Prop:=∀w∈d.weights P t,w<=reachBytes
theorem Sm.part{t:TypeId}{a:Array Field}{parts:List (DataW H)}(b:P.underlying t=some (.struct a))(h:Sm P t (.agg parts)){i:Nat}{f:Field}{d:DataW H}(c:a[i]? =some f)(e:parts[i]? =some d):Sm P f.type d:=λw g=>by
 refine h w ?_;simp only[DataW.weights,b];exact DataW.weights_mem_each (j:=i) (by simp[c]) e w g
theorem weightsAll_mem{e:TypeId}:∀{l:List (DataW H)} {d:DataW H},d∈l->∀w∈d.weights P e,w∈DataW.weightsAll P e l
 |c::l,d,a,w,b=>by
  simp only[DataW.weightsAll,bQ];rcases ay.1 a with rfl|a
  .exact .inl b
  .exact .inr (weightsAll_mem a w b)
theorem Sm.slice{t e:TypeId}{l r:List (DataW H)}(a:P.underlying t=some (.slice e))(h:Sm P t (.slice l r)):l.length*P.bytesOf e<=reachBytes∧∀d∈l,Sm P e d:=by
 have h:∀w∈(DataW.slice l r).weights P t,w<=reachBytes:=h;simp only[DataW.weights,a]at h;refine⟨?_,λd b w c=>h w ?_⟩
 .exact aS (Nat.mul_le_mul_right _ (gY _ _)) (h _ (dA ..))
 .exact aY _ (iq _ (weightsAll_mem b w c))
theorem Sm.str{t:TypeId}{l:List UInt8}(h:Sm (H:=H) P t (.lit (.string l))):l.length<=reachBytes:=h _ (by simp[DataW.weights])
end
theorem C9:reachBytes=140737488351232:=rfl
section
variable{H:Type}{Y:TypeId×Value->H}{P:Program}{W:World}{X:Nat->Bool}{Z:Bool}
theorem Xp{α:Type}{p f:TypeId}{z:Nat}(w:P.underlying p=some (.slice f))(y:P.cellsOf f=z)(F:0<z){Q:α->List Value->Prop}{e:Nat}
 (el:∀{m:Nat} {cs:List Value} {x:DataW H×List MemPlace},m<e->DataW.trod Y P W 0 X Z m f cs=some x->Sm P f x.1->∃v,Q v cs){cs:List Value}{x:DataW H×List MemPlace}(h:DataW.trod Y P W 0 X Z e p cs=some x)(G:Sm P p x.1):
 ∃(A:Value) (a:Option (Nat×Nat)) (c:Nat) (l:List α),cs=[A]∧DU A=some (.aO a l.length c)∧l.length*P.bytesOf f<=reachBytes∧
  ((a=none∧l=[]∧c=0)∨∃b o,a=some (b,o)∧∀i v,l[i]? =some v->∃d,Q v d∧∀j,j<z->W.cell? ⟨b,o+i*z+j,none⟩=d[j]?):=by
 rcases DataW.trod_slice w h with⟨rfl,_⟩|⟨a,len,cap,q,B,m,J,rfl,rfl,_,r,C,g,k,_,_⟩
 .exact⟨_,none,0,[],rfl,rfl,by simp,.inl ⟨rfl,rfl,rfl⟩⟩
 .obtain⟨D,t⟩:=Sm.slice w G
  rw[dZ]at D;obtain⟨b,o,s⟩:=a;have E:len≠0->s=none:=λh0=>by
   have:=k 0 (by omega);rw[aI (by omega),jl,y]at this;obtain⟨d,g1,_⟩:=Option.bind_eq_some_iff.1 this;obtain⟨K,u⟩:=cells_at g1;have:=u 0 F;rw[aI (by omega)]at this;unfold World.cell? at this;cases s with
   |none=>rfl
   |some s=>split at this<;>cases this
  have n:∀i,i<len->∃v,∃d,Q v d∧∀j,j<z->W.cell? ⟨b,o+i*z+j,none⟩=d[j]? :=λi hi=>by
   obtain rfl:=E (by omega);have:=k i hi;rw[aI (by omega),y,XQ]at this;obtain⟨d,g1,g2⟩:=Option.bind_eq_some_iff.1 this;obtain⟨v,I⟩:=el (by omega) g2 (t _ (List.mem_map_of_mem (List.getElem_mem _)));obtain⟨_,u⟩:=cells_at g1;refine⟨v,d,I,λj hj=>?_⟩;have:=u j hj;rwa[XQ]at this
  obtain⟨l,l1,l2⟩:=Xo len n;subst l1;refine⟨_,some (b,o),cap,l,rfl,?_,by rw[← g];exact D,.inr ⟨b,o,rfl,l2⟩⟩;simp only[DU];rw[aC ⟨r,E⟩]
theorem Nz{α:Type}{encA:α->List AV}{z:Nat}(e:∀v,(encA v).length=z){Q:α->List Value->Prop}(g:∀{v cs},Q v cs->∀(j:Nat) (a:AV),(encA v)[j]? =some a->∃u,cs[j]? =some u∧DU u=some a)
 {a:Option (Nat×Nat)}{c:Nat}{l:List α}(h:(a=none∧l=[]∧c=0)∨∃b o,a=some (b,o)∧∀i v,l[i]? =some v->∃d,Q v d∧∀j,j<z->W.cell? ⟨b,o+i*z+j,none⟩=d[j]?){w1:World}(k:∀b,b<W.heap.size->w1.heap[b]? =W.heap[b]?):
 xQ (uN w1) (.aO a l.length c) l.length z (l.flatMap encA):=by
 rcases h with⟨rfl,rfl,rfl⟩|⟨b,o,rfl,h⟩
 .exact .inr ⟨rfl,rfl,rfl⟩
 refine .inl ⟨b,o,c,rfl,?_⟩;rw[← XM e];refine O1 (Rx e l o λi v m j a f=>?_);obtain⟨d,q,n⟩:=h i v m;obtain⟨u,h1,p⟩:=g q j a f;have hj:j<z:=by rw[← e v];exact(aA.1 f).1
 have:=n j hj;rw[h1]at this;unfold uN;rw[YZ k this];exact p
structure VX(P:Program)(tK tT tF tA tV:TypeId)(r0 r1 r2 f0 f1 g0 g1 g2:Field):Prop where
 K:P.underlying tK=some (.slice tT)
 R:P.underlying tT=some (.struct #[r0,r1,r2])
 F:P.underlying tF=some (.struct #[f0,f1])
 A:P.underlying tA=some (.slice tV)
 V:P.underlying tV=some (.struct #[g0,g1,g2])
 ty:r0.type=tF∧P.underlying r1.type=some (.int .i64)∧r2.type=tK∧P.underlying f0.type=some .string∧f1.type=tA∧P.underlying g0.type=some (.int .i64)∧P.underlying g1.type=some (.int .i64)∧P.underlying g2.type=some .string
 of:r0.offset=0∧r1.offset=2∧r2.offset=3∧f0.offset=0∧f1.offset=1∧g0.offset=0∧g1.offset=1∧g2.offset=2
 cl:P.cellsOf tF=2∧P.cellsOf r1.type=1∧P.cellsOf tK=1∧P.cellsOf f0.type=1∧P.cellsOf tA=1∧P.cellsOf g0.type=1∧P.cellsOf g1.type=1∧P.cellsOf g2.type=1
 cT:P.cellsOf tT=4
 cV:P.cellsOf tV=3
 bT:1<=P.bytesOf tT
 bV:P.bytesOf tV=32
def QV(v:PV)(cs:List Value):Prop:=cs=[.int .i64 v.k,.int .i64 v.m,.string ⟨v.s.toArray⟩]∧v.s.length<=reachBytes
variable{D V C B U:TypeId}{R J S K M F G O:Field}
theorem Zo(T:VX P D V C B U R J S K M F G O){a:Nat}{cs:List Value}{x:DataW H×List MemPlace}
 (h:DataW.trod Y P W 0 X Z a U cs=some x)(l:Sm P U x.1):∃v,QV v cs:=by
 obtain⟨_,_,_,_,_,t6,o,p⟩:=T.ty;obtain⟨_,_,_,_,_,q,r,t⟩:=T.of;obtain⟨_,_,_,_,_,c6,c7,u⟩:=T.cl;obtain⟨w,n,_,rfl,d,b,c⟩:=DataW.trod_struct T.V h;rw[T.cV]at d
 match w,b with
 |[A,E,y],_=>
  have e:=c 0 F rfl;have e1:=c 1 G rfl;have e2:=c 2 O rfl;rw[q,c6]at e;rw[r,c7]at e1;rw[t,u]at e2
  match cs,d with
  |[v0,v1,v2],_=>
   obtain⟨k,f,_⟩:=DataW.trod_int t6 e;obtain⟨m,g,_⟩:=DataW.trod_int o e1;obtain⟨s,j,z,_⟩:=DataW.trod_string p e2;simp at f g j;refine⟨⟨k,m,s.data.toList⟩,by rw[f,g,j],?_⟩;have h1:Sm P O.type y.1:=Sm.part T.V l (i:=2) rfl rfl;rw[z]at h1;exact h1.str
theorem QV.abs{v:PV}{cs:List Value}(h:QV v cs):∀(j:Nat) (a:AV),(PV.cells v)[j]? =some a->∃u,cs[j]? =some u∧DU u=some a:=by
 obtain⟨rfl,_⟩:=h;intro j a e
 match j with
 |0=>cases e;exact⟨_,rfl,rfl⟩
 |1=>cases e;exact⟨_,rfl,rfl⟩
 |2=>cases e;exact⟨_,rfl,by simp[DU]⟩
 |j+3=>cases e
structure TC where
 pa:Option (Nat×Nat)
 ca:Nat
 pk:Option (Nat×Nat)
 kc:Nat
 t:T
def TC.cells(x:TC):List AV:=[.str x.t.rel,.aO x.pa x.t.args.length x.ca,zI x.t.rule,.aO x.pk x.t.kids.length x.kc]
def QT(W:World)(x:TC)(cs:List Value):Prop:=
 (∃a b,cs=[.string ⟨x.t.rel.toArray⟩,a,.int .i64 x.t.rule,b]∧DU a=some (.aO x.pa x.t.args.length x.ca)∧DU b=some (.aO x.pk x.t.kids.length x.kc))∧x.t.DX∧x.t.Iz∧P9 W x.cells x.t
theorem QT.abs{x:TC}{cs:List Value}(h:QT W x cs):∀(j:Nat) (a:AV),(TC.cells x)[j]? =some a->∃u,cs[j]? =some u∧DU u=some a:=by
 obtain⟨⟨d,f,rfl,b,c⟩,_⟩:=h;intro j a e
 match j with
 |0=>cases e;exact⟨_,rfl,by simp[DU]⟩
 |1=>cases e;exact⟨_,rfl,b⟩
 |2=>cases e;exact⟨_,rfl,rfl⟩
 |3=>cases e;exact⟨_,rfl,c⟩
 |j+4=>cases e
theorem adH{old:Old}:∀{l:List TC},(∀x∈l,mF old x.cells [x.t])->mF old (l.flatMap TC.cells) (l.map TC.t)
 |[],_=> .nil
 |x::l,h=>mF.app (h x (dA ..)) (adH λy a=>h y (aY _ a))
theorem Q7:∀{l:List TC},(∀x∈l,x.t.DX)->OL (l.map TC.t)
 |[],_=>trivial
 |x::l,h=>⟨h x (dA ..),Q7 λy a=>h y (aY _ a)⟩
theorem QL:∀{l:List TC},(∀x∈l,x.t.Iz)->Ox (l.map TC.t)
 |[],_=>trivial
 |x::l,h=>⟨h x (dA ..),QL λy a=>h y (aY _ a)⟩
theorem Wq(T:VX P D V C B U R J S K M F G O):∀(N:Nat) {a:Nat} {cs:List Value} {x:DataW H×List MemPlace},a<=N->
 DataW.trod Y P W 0 X Z a V cs=some x->Sm P V x.1->∃r,QT W r cs
 |N,a,cs,x,hN,h,g=>by
  obtain⟨t1,t2,t3,t4,t5,_⟩:=T.ty;obtain⟨o1,o2,o3,o4,o5,_⟩:=T.of;obtain⟨c1,c2,c3,c4,c5,_⟩:=T.cl;obtain⟨xs,n,rfl,rfl,hl,j,hf⟩:=DataW.trod_struct T.R h;rw[T.cT]at hl
  match xs,j with
  |[y0,y1,y2],_=>
   have e0:=hf 0 R rfl;have e1:=hf 1 J rfl;have e2:=hf 2 S rfl;have w:Sm P R.type y0.1:=Sm.part T.R g (i:=0) rfl rfl;have s2:Sm P S.type y2.1:=Sm.part T.R g (i:=2) rfl rfl;rw[t1]at w;rw[t3]at s2;rw[o1,t1,c1]at e0;rw[o2,c2]at e1;rw[o3,t3,c3]at e2
   match cs,hl with
   |[v0,v1,v2,v3],_=>
    obtain⟨rule,a1,_⟩:=DataW.trod_int t2 e1;simp at a1;obtain⟨ys,n',_,e3,_,e,p⟩:=DataW.trod_struct T.F e0
    match ys,e with
    |[z0,z1],_=>
     have d0:=p 0 K rfl;have d1:=p 1 M rfl;rw[e3]at w;have z:Sm P K.type z0.1:=Sm.part T.F w (i:=0) rfl rfl;have q1:Sm P M.type z1.1:=Sm.part T.F w (i:=1) rfl rfl;rw[t5]at q1;rw[o4,c4]at d0;rw[o5,t5,c5]at d1;obtain⟨s,a3,b3,_⟩:=DataW.trod_string t4 d0;simp at a3;rw[b3]at z;have z:=z.str;obtain⟨sa,pa,ca,l,a4,ha,hB,E⟩:=Xp (Q:=QV) T.A T.cV (by decide) (λ_ h g=>Zo T h g) d1 q1;obtain⟨sk,pk,kc,k,a5,hk,f,c⟩:=Xp (Q:=QT W) T.K T.cT (by decide) (λ{m} _ _ hm h g=>by
      cases N with
      |zero=>omega
      |succ N=>exact Wq T N (by omega) h g) e2 s2
     simp at a4 a5;have I:∀v∈l,v.s.length<=reachBytes:=λv I=>by
      rcases E with⟨_,rfl,_⟩|⟨b,o,_,E⟩
      .cases I
      .obtain⟨i,hi,rfl⟩:=List.getElem_of_mem I
       obtain⟨cs',q,_⟩:=E i _ (aI hi);exact q.2
     have hq:∀y∈k,y.t.DX∧y.t.Iz∧P9 W y.cells y.t:=λy d=>by
      rcases c with⟨_,rfl,_⟩|⟨b,o,_,c⟩
      .cases d
      .obtain⟨i,hi,rfl⟩:=List.getElem_of_mem d
       obtain⟨cs',q,_⟩:=c i _ (aI hi);exact q.2
     rw[T.bV,C9]at hB;have f:k.length<=140737488351232:=by
      rw[C9]at f;exact aS (Nat.le_mul_of_pos_right _ T.bT) f
     rw[C9]at z;have u:(k.map TC.t).length=k.length:=dZ ..;refine⟨⟨pa,ca,pk,kc,.node s.data.toList l rule (k.map TC.t)⟩,⟨sa,sk,by subst a1 a3 a4 a5;rfl,ha,?_⟩,⟨by omega,by omega,Q7 λy d=>(hq y d).1⟩,⟨⟨by omega,λv h=>?_⟩,QL λy d=>(hq y d).2.1⟩,λw1 hw=>?_⟩
     .show DU sk=some (.aO pk (k.map TC.t).length kc)
      rw[u];exact hk
     .have:=I v h
      rw[C9]at this;omega
     .have L:=Nz (encA:=TC.cells) (λ_=>rfl) QT.abs c hw
      rw[← u]at L;refine mF.cons (Nz (encA:=PV.cells) (λ_=>rfl) QV.abs E hw) L (adH λy d=>(hq y d).2.2 w1 hw) .nil
theorem Zt(T:VX P D V C B U R J S K M F G O){base:Nat}{v:Value}{d:DataW H}{p:List MemPlace}(h:DataW.Trod Y P W 0 X Z V v d p)(b:Value.okWide P W .any base V v)(e:Sm P V d):
 ∃x:TC,dS dR [.agg x.cells] [v]∧P9 W x.cells x.t∧x.t.DX∧x.t.Iz:=by
 obtain⟨c,h⟩:=h;simp only[Value.okWide,T.R]at b;obtain⟨cs,rfl,f,_⟩:=b;obtain⟨x,⟨g,i,a,j,k⟩,l,m,n⟩:=Wq T c (aj _) h e;refine⟨x,cO ?_ dG,n,l,m⟩;have a:cs.toList=[.string ⟨x.t.rel.toArray⟩,g,.int .i64 x.t.rule,i]:=a;unfold RV;refine⟨cs,rfl,?_⟩;rw[a];exact cO (by unfold RV;rfl) (cO (P6 j) (cO (by unfold RV;rfl) (cO (P6 k) dG)))
end
end
end Go.Ev
