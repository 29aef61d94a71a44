/- A part of the proof that ProofGreat returns true. -/
import Derived.Test.YtngcidmhopkokaaGreatDoorMyEv2
import Derived.Conc.Own2
import Derived.Conc.MarkLaws
import Derived.Conc.AtomicLaws2
import Derived.Conc.FxGenDone
import Derived.Conc.Beside
import Derived.Conc.CrowdBase
import Derived.Conc.FxEnd
set_option linter.all false
namespace Go.Ev
set_option maxRecDepth 100000
section
open Go.Conc (G)
variable{D:Nat->Bool}{i j q:Nat}{tm tm':Tr AV}
def Bf(ops:Array Oper)(i p:Nat):Prop:=((Region.before ops).getD i 0).testBit p=true
theorem L8(m:Nat):∀(ps:List (Nat×Nat×AO)) (h:AH) {i:Nat} {o:AO},(wake m ps h).1.tr.get i=some o->h.tr.get i=some o∨∃e∈ps,m.testBit e.1=true∧i=e.2.1∧o=e.2.2
 |[],h,i,o,e=> .inl e
 |p::ps,h,i,o,e=>by
  unfold wake at e;have c:=L8 m ps h (i:=i) (o:=o);cases a:m.testBit p.1 with
  |true=>
   simp only[a,bA]at e;rcases AH.pR e with⟨rfl,rfl⟩|⟨_,d⟩
   .exact .inr ⟨p,by simp,a,rfl,rfl⟩
   .rcases c d with h1|⟨q,b,h1⟩
    .exact .inl h1
    .exact .inr ⟨q,bg _ b,h1⟩
  |false=>
   simp only[a,bC]at e;rcases c e with h1|⟨q,b,h1⟩
   .exact .inl h1
   .exact .inr ⟨q,bg _ b,h1⟩
theorem L6(m:Nat):∀(ps:List (Nat×Nat×AO)) (h:AH) {e:Nat×Nat×AO},e∈(wake m ps h).2->e∈ps∧m.testBit e.1=false
 |[],_,e,a=>by simp[wake]at a
 |p::ps,h,e,a=>by
  unfold wake at a;have b:=L6 m ps h (e:=e);cases c:m.testBit p.1 with
  |true=>
   simp only[c,bA]at a;exact⟨bg _ (b a).1,(b a).2⟩
  |false=>
   simp only[c,bC]at a;rcases ay.1 a with rfl|a
   .exact⟨by simp,c⟩
   .exact⟨bg _ (b a).1,(b a).2⟩
theorem QS(m:Nat):∀(ps:List (Nat×Nat×AO)) (h:AH),(wake m ps h).1.df=h.df
 |[],_=>rfl
 |p::ps,h=>by
  unfold wake;have a:=QS m ps h;cases b:m.testBit p.1 with
  |true=>simp only[bA];rw[AH.uI];exact a
  |false=>simp only[bC];exact a
theorem Jr:∀(ps:List (Nat×Nat×AO)) (h:AH),(oW ps h).df=h.df
 |[],_=>rfl
 |p::ps,h=>by unfold oW;rw[Jr ps,AH.uI]
theorem GL:∀(ps:List (Nat×Nat×AO)) (h:AH) {i:Nat} {o:AO},(oW ps h).tr.get i=some o->h.tr.get i=some o∨∃e∈ps,i=e.2.1∧o=e.2.2
 |[],h,i,o,e=> .inl e
 |p::ps,h,i,o,e=>by
  unfold oW at e;rcases GL ps _ e with h1|⟨q,a,h1⟩
  .rcases AH.pR h1 with⟨rfl,rfl⟩|⟨_,b⟩
   .exact .inr ⟨p,by simp,rfl,rfl⟩
   .exact .inl b
  .exact .inr ⟨q,bg _ a,h1⟩
section
variable{x:AX}{Z:Array Oper}{T:wK}
def vN(Z:Array Oper)(j:Nat):Option Tmp:=(Z[j]?).bind (·.dst)
noncomputable def Ay(x:AX)(Z:Array Oper)(T:wK)(D:Nat->Bool):Nat->Tr AV
 |0=>T.tm 0
 |j+1=>cond (D j) (fin x (vN Z j) (T.v j) (Ay x Z T D j)) (Ay x Z T D j)
theorem xu(R:mH Z){t:Nat}(h:vN Z j=some t):t<1000000:=by
 unfold vN at h;cases a:Z[j]? with
 |none=>rw[a]at h;cases h
 |some o=>rw[a]at h;exact R.dst j o t a h
theorem Ko(a:∀j,j<T.n->T.tm (j+1)=fin x (vN Z j) (T.v j) (T.tm j)){D:Nat->Bool}:∀j,j<=T.n->(∀i,i<j->D i=true)->Ay x Z T D j=T.tm j
 |0,_,_=>rfl
 |j+1,h,b=>by
  unfold Ay;rw[b j (by omega),bA,Ko a j (by omega) (λi hi=>b i (by omega)),a j (by omega)]
theorem DT(R:mH Z){D D':Nat->Bool}{t:Nat}:∀n,(∀j,j<n->vN Z j=some t->D j=D' j)->(Ay x Z T D n).get t=(Ay x Z T D' n).get t
 |0,_=>rfl
 |n+1,h=>by
  have c:=DT R (D:=D) (D':=D') (t:=t) n λj hj=>h j (by omega);unfold Ay;by_cases a:vN Z n=some t
  .rw[h n (by omega) a]
   cases D' n with
   |true=>simp only[bA];rw[Ai (λi hi=>xu R hi),Ai (λi hi=>xu R hi),aH a,aH a]
   |false=>exact c
  .have key:∀(b:Bool) (tm:Tr AV),(cond b (fin x (vN Z n) (T.v n) tm) tm).get t=tm.get t:=λb tm=>by
    cases b with
    |true=>simp only[bA];rw[Ai (λi hi=>xu R hi),au a]
    |false=>rfl
   rw[key,key];exact c
theorem DU{q:Nat}:∀n,q<=n->Ay x Z T (λj=>decide (j<q)) n=Ay x Z T (λj=>decide (j<q)) q
 |0,h=>by have:q=0:=by omega
          subst this;rfl
 |n+1,h=>by
  rcases mX h with rfl|h
  .rfl
  .have a:=DU n (by omega:q<=n)
   show cond (decide (n<q)) _ _=_;have:decide (n<q)=false:=by simp;omega
   rw[this,bC];exact a
theorem Mj(R:mH Z){D:Nat->Bool}{q t:Nat}(a:D q=true)(b:vN Z q=some t):∀n,q<n->(∀j,q<j->j<n->D j=true->vN Z j≠some t)->(Ay x Z T D n).get t=some (cond (Nat.blt t x.nt) (T.v q) gH)
 |0,h,_=>by omega
 |n+1,h,c=>by
  unfold Ay;rcases mX h with h|h
  .have:n=q:=by omega
   subst this;rw[a,bA,Ai (λi hi=>xu R hi),aH b]
  .have d:=Mj R a b n (by omega) λj h1 f=>c j h1 (by omega)
   cases e:D n with
   |true=>
    simp only[bA];rw[Ai (λi hi=>xu R hi),au (c n (by omega) (by omega) e)];exact d
   |false=>exact d
structure Ready(Z:Array Oper)(D:Nat->Bool)(q:Nat):Prop where
 lt:q<Z.size
 no:D q=false
 ahead:∀p,Bf Z q p->D p=true
def Closed(Z:Array Oper)(D:Nat->Bool):Prop:=∀i,D i=true->∀p,Bf Z i p->D p=true
def vg(D:Nat->Bool)(q:Nat):Nat->Bool:=λj=>D j||j==q
theorem oL(D:Nat->Bool)(q:Nat):vg D q q=true:=by simp[vg]
theorem rX(h:j≠q):vg D q j=D j:=by simp[vg,h]
theorem LA(h:D j=true):vg D q j=true:=by simp[vg,h]
theorem Closed.add(h:Closed Z D)(b:Ready Z D q):Closed Z (vg D q):=λi hi p hp=>by
 by_cases a:i=q
 .subst a;exact LA (b.ahead p hp)
 .rw[rX a]at hi;exact LA (h i hi p hp)
theorem DY(h:j<Z.size):∃o,Z[j]? =some o:=⟨Z[j],bX h⟩
theorem CY{o:Oper}(h:Z[j]? =some o):vN Z j=o.dst:=by unfold vN;rw[h];rfl
theorem writers(R:mH Z)(g:Closed Z D)(d:Ready Z D q){o:Oper}(i:Z[q]? =some o){t:Nat}(k:o.dst=some t∨t∈o.looksAt Z)(hj:j<Z.size)(b:q≠j)(e:vN Z j=some t):D j=decide (j<q):=by
 obtain⟨l,a⟩:=DY hj;rw[CY a]at e;rcases R.comp q j o l t i a b e k with h|h
 .have h1:D j=true:=d.ahead j h
  have f:=Am R q j h;rw[h1];simp[f]
 .have f:=Am R j q h
  have h1:D j=false:=by
   cases c:D j with
   |false=>rfl
   |true=>have:=g j c q h;rw[d.no]at this;cases this
  rw[h1];simp;omega
theorem TY(R:mH Z)(d:∀j,j<T.n->T.tm (j+1)=fin x (vN Z j) (T.v j) (T.tm j))(e:Closed Z D)(a:Ready Z D q)(b:q<T.n){o:Oper}(f:Z[q]? =some o){t:Nat}(g:t∈o.looksAt Z):
 (Ay x Z T D Z.size).get t=(T.tm q).get t:=by
 have h1:Ay x Z T (λj=>decide (j<q)) Z.size=T.tm q:=by
  rw[DU Z.size (iC a.lt)];exact Ko d q (iC b) λi hi=>by simp[hi]
 rw[← h1];refine DT R Z.size λj hj h=>?_;by_cases c:q=j
 .subst c;rw[a.no];simp
 .exact writers R e a f (.inr g) hj c h
theorem Yq(R:mH Z)(g:Closed Z D)(d:Ready Z D q){o:Oper}(c:Z[q]? =some o)(t:Nat):
 (Ay x Z T (vg D q) Z.size).get t=(fin x o.dst (T.v q) (Ay x Z T D Z.size)).get t:=by
 rw[Ai (λi hi=>R.dst q o i c hi)];by_cases a:o.dst=some t
 .rw[aH a]
  refine Mj R (oL D q) (by rw[CY c];exact a) Z.size d.lt λj h1 h f k=>?_;rw[rX (by omega)]at f;have:=writers R g d c (.inl a) h (by omega) k;rw[f]at this;simp at this;omega
 .rw[au a]
  refine DT R Z.size λj hj b=>rX λe=>?_;subst e;rw[CY c]at b;exact a b
theorem PD{o:Oper}(h:∀t∈o.looksAt Z,tm.get t=tm'.get t):Alike tm tm' o.op.operands.toList:=λy a=>by
 cases y with
 |tmp t=>
  have:t∈o.looksAt Z:=by
   unfold Oper.looksAt;refine bF.2 (.inl ?_);rw[List.mem_filterMap];exact⟨_,a,rfl⟩
  show(match tm.get t with |some v=>v|none=> .any)=(match tm'.get t with |some v=>v|none=> .any);rw[h t this]
 |const v=>rfl
 |global g=>rfl
 |func g=>rfl
theorem Nj{o:Oper}(h:∀t∈o.looksAt Z,tm.get t=tm'.get t):eX o Z tm=eX o Z tm':=by
 unfold eX;cases a:o.guard with
 |none=>rfl
 |some p=>
  simp only;unfold PO;cases hj:Z[p.1]? with
  |none=>rfl
  |some b=>
   simp only;cases c:b.dst with
   |none=>rfl
   |some d=>
    simp only;have:d∈o.looksAt Z:=by
     unfold Oper.looksAt;refine bF.2 (.inr ?_);rw[a];simp[hj,c]
    rw[h d this]
end
theorem E9{ops:Array Oper}{C:(Nat->Bool)->Prop}(d:∀D,C D->Closed ops D):∀{L:List (Nat×AH)},oK (Region.before ops) L=true->L.Pairwise λp q=>∀D,C D->D q.1=true->D p.1=true
 |[],_=> .nil
 |[_],_=>mI _ _
 |p::q::l,h=>by
  unfold oK at h;rw[av]at h;have e:=E9 d (L:=q::l) h.2;have a:∀D,C D->D q.1=true->D p.1=true:=λD b f=>d D b q.1 f p.1 h.1;refine dG.2 ⟨λs c=>?_,e⟩;rcases ay.1 c with rfl|c
  .exact a
  .exact λD b h1=>a D b ((dG.1 e).1 s c D b h1)
theorem ER{α:Type}{R:α->α->Prop}{f:α->Nat}:∀{L:List α},L.Pairwise R->L.Pairwise (λa b=>f a<f b)->∀a∈L,∀b∈L,f a<f b->R a b
 |[],_,_,a,e,_,_,_=>by simp at e
 |x::l,h1,g,a,e,b,i,h=>by
  rw[dG]at h1 g;rcases ay.1 e with e1|c<;>rcases ay.1 i with e2|d
  .subst e1;subst e2;omega
  .subst e1;exact h1.1 b d
  .subst e2;have:=g.1 a c;omega
  .exact ER h1.2 g.2 a c b d h
theorem Cr(T:wK)(i k:Nat):(nV T i k).Pairwise λa b=>a.1<b.1:=by
 unfold nV;rw[List.pairwise_map];exact(List.pairwise_lt_range' (s:=i) (n:=k)).filter _
theorem Ej{T:wK}{k:Nat}(h1:i<=j)(a:j<i+k)(b:T.kind j=3):(j,T.h (j+1))∈nV T i k:=by
 unfold nV;refine bP.2 ⟨j,fB.2 ⟨List.mem_range'_1.2 ⟨h1,a⟩,by simp[b]⟩,rfl⟩
theorem tQ{T:wK}{k:Nat}{p:Nat×AH}(h:p∈nV T i k):i<=p.1∧p.1<i+k∧T.kind p.1=3∧p.2=T.h (p.1+1):=by
 unfold nV at h;obtain⟨j,hj,rfl⟩:=bP.1 h;obtain⟨h1,a⟩:=fB.1 hj;have:=List.mem_range'_1.1 h1;exact⟨this.1,this.2,by simpa using a,rfl⟩
theorem EP{E:Env}{b:Array Nat}{q:DQ}{m:Nat}:∀{L:List (Nat×AH)},r9 E b q L=true->L.Pairwise (λa b=>a.1<b.1)->(∀s∈L,m<=s.1->(b.getD q.i 0).testBit s.1=false)->(∀s∈L,s.1<m->(b.getD s.1 0).testBit q.i=false)->
 ∀p∈L,p.1<m->(∀s∈L,s.1<m->s.1<=p.1)->BM E q p.2=true
 |[],_,_,_,_,p,hp,_,_=>by simp at hp
 |y::l,h,e,h1,f,p,hp,g,d=>by
  unfold r9 at h;rw[dG]at e;rcases ay.1 hp with rfl|hp
  .have e1:(b.getD p.1 0).testBit q.i=false:=f p (by simp) g
   have e2:(l.any λx=>(b.getD q.i 0).testBit x.1)=false:=by
    rw[List.any_eq_false];intro s c;have k:=e.1 s c;have:m<=s.1:=by
     rcases aZ s.1 m with h|h
     .have:=d s (by simp[c]) h;omega
     .exact h
    rw[h1 s (by simp[c]) this];simp
   rw[e1,e2]at h;simp only[Bool.or_self,bC,av]at h;exact h.1
  .have:r9 E b q l=true:=by
    cases j:((b.getD y.1 0).testBit q.i||l.any λx=>(b.getD q.i 0).testBit x.1)with
    |true=>rw[j]at h;exact h
    |false=>rw[j]at h;simp only[bC,av]at h;exact h.2
   exact EP this e.2 (λs c=>h1 s (by simp[c])) (λs c=>f s (by simp[c])) p hp g λs c=>d s (by simp[c])
end
section
open Go.Conc (G)
section
variable{P:Program}{main:Bool}{K:Ctx}{Z:Nm}{h:AH}{w:World}{E:Env}{r:yj}
variable{x:AX}{U:Tr AV}{R:List AD}{X:Array Oper}{i:Nat}{Y:List Nat}{T:List Item}{V:Frame}{cs:List Frame}{o:Oper}
def qU(K:Ctx)(Z:Nm)(nx:Nat)(x:AX)(U:Tr AV)(R:List AD)(X:Array Oper)(Y:List Nat)(T:List Item)(cs:List Frame)(h':AH):Nat->Goroutine->World->Prop:=λd g w=>
 ∃ι' a,g=G a cs∧Grow Z ι' nx h'.nx∧Sat K ι' h' w∧iQ ι' x U R X Y T a∧d=h'.df
theorem y7{h':AH}{d:Tr AV}(H:∀a,jW K w a->GoTo P main K Z h a V cs (λι' b=>iQ ι' x d R X Y T b) h')(f:Free Z h.nx h'.nx):Walk P main K (qU K Z h.nx x d R X Y T cs h') h.df (G V cs) w:=by
 refine Walk.of rfl λa hr=>?_;obtain⟨ι',b,w',es,h1,g,j,k,l,m⟩:=H a hr f;exact⟨_,w',es,h1,l,.stop λe c=>⟨ι',b,rfl,g,j.rely c,k,m⟩⟩
theorem V6(hr:BR P main E r)(s:Of K P E)(F:Fits P E)(FF:dM P E)(S:Sat K Z h w)(H:ql Z x U R X i Y T V)(t:X[i]? =some o)(C:Region.wanted o (yielded X V.tmps)=true)
 {p:AV×AH}(e:vE E r h (fV o.op E U h)=some p)(y:Free Z h.nx p.2.nx):Walk P main K (qU K Z h.nx x (fin x o.dst p.1 U) R X Y T cs p.2) h.df (G V cs) w:=by
 cases m:fV o.op E U h with
 |none=>rw[m]at e;cases e
 |some q=>
  rw[m]at e;cases q with
  |val v h'=>
   cases e;exact y7 (λj f=>Cq s F (S.rely f) H t C m) y
  |call g args=>
   simp only[vE]at e;split at e
   .rename_i c n rs ex k
    refine Walk.of rfl λj f=>?_;obtain⟨vs,h1,h2⟩:=El (main:=main) (cs:=cs) s F FF (S.rely f) H t C m k;refine⟨_,_,#[],h2,iA.refl j,?_⟩;refine(hr.call _ _ _ _ e K Z j vs _ _ s (S.rely f) h1 (λI=>by cases I) y).mono ?_
    rintro d' g' J ⟨ι',u,rfl,D,L,M,rfl⟩
    exact⟨ι',V.finish u,rfl,D,L,H.finish t (D.ext y) M,rfl⟩
   .rename_i n rs ex k
    split at e
    .rename_i v h' I
     cases e;exact y7 (λj f=>Nh s F FF (S.rely f) H t C m k I) y
    .cases e
   .cases e
  |yield l args=>
   simp only[vE]at e;obtain⟨g,k,z⟩:=hr.round _ _ _ _ e
   .refine Walk.of rfl λj f=>?_
    obtain⟨A,es,D,L,M,O⟩:=G5 (main:=main) (cs:=cs) s F (S.rely f) H t C m g k;have N:g.x.deferred=false:=by
     unfold qb at k;split at k
     .rename_i st pd fn nt tm' ps a b d Q
      cases m:Nat.beq args.length ps.length with
      |false=>rw[m]at k;cases k
      |true=>rw[m]at k;cases k;rfl
     .cases k
    have B:A.kind= .normal:=by rw[O.kind,N];rfl
    refine⟨_,j,es,D,L,?_⟩;rw[M];have W:=z K Z j A V cs s (S.rely f) O B y;refine W.mono ?_
    rintro d' g' J ⟨ι',u,rfl,j1,j2,j3,rfl⟩
    rw[B];exact⟨ι',V.finish u,rfl,j1,j2,H.finish t (j1.ext y) j3,rfl⟩
  |_=>cases e
end
def uX(ops:Array Oper)(T:wK)(D:Nat->Bool)(f:Nat):Prop:=f<T.n∧D f=true∧T.kind f=1∧∀l,l<T.n->T.kind l=3->D l=true->¬Bf ops l f
def MD(ops:Array Oper)(T:wK)(D:Nat->Bool)(m:Nat)(i:Nat)(o:AO):Prop:=(T.h m).tr.get i=some o∨∃f,uX ops T D f∧i=(T.h f).nx∧o=T.ob f
structure Inv(K:Ctx)(ι0:Nm)(ops:Array Oper)(T:wK)(D:Nat->Bool)(m:Nat)(ι:Nm)(w:World):Prop where
 sat:sS K ι (MD ops T D m) w
 grow:Grow ι0 ι (T.h 0).nx (T.h T.n).nx
 free:∀j,j<T.n->D j=false->Free ι (T.h j).nx (T.h (j+1)).nx
 loud:∀l,l<T.n->T.kind l=3->(D l=true↔l<m)
 closed:Closed ops D
 Un:∀f,uX ops T D f->∀o,(T.h m).tr.get (T.h f).nx=some o->¬o.live
 le:m<=T.n
section
variable{E:Env}{r:Nat->yj}{x:AX}{Z:Array Oper}{T:wK}{Y:List DQ}
theorem YR(a:∀i,(r i).Up){j:Nat}(b:Step E r x Z (Region.before Z) T Y j):(T.h j).nx<=(T.h (j+1)).nx:=by
 obtain⟨o,_,_,h|h|h|h⟩:=b
 .rw[h.2.2.2.1];exact ah _
 .obtain⟨_,_,_,_,⟨h',h1,c,_⟩,_⟩:=h
  rw[c];exact Ac h1
 .rw[h.2.2.2.1];exact ah _
 .have:=Ni (a j) (λq d=>Ac d) h.2.2.1
  rw[FY]at this;exact this
theorem nJ(c:∀i,(r i).Up)(d:∀j,j<T.n->Step E r x Z (Region.before Z) T Y j){a:Nat}:∀b,a<=b->b<=T.n->(T.h a).nx<=(T.h b).nx
 |0,h,_=>by have:a=0:=by omega
            subst this;exact ah _
 |b+1,h,e=>by
  rcases mX h with rfl|h
  .exact ah _
  .exact aQ (nJ c d b (by omega) (by omega)) (YR c (d b (by omega)))
theorem MX{j:Nat}(b:Step E r x Z (Region.before Z) T Y j)(a:T.kind j=1):(T.h (j+1)).nx=(T.h j).nx+1:=by
 obtain⟨o,_,_,h|h|h|h⟩:=b
 .rw[h.1]at a;cases a
 .obtain⟨_,_,c,_,⟨h',h1,d,_⟩,_⟩:=h
  obtain⟨ob,rfl,_,_⟩:=xP c h1;rw[d];exact(AH.lQ:((T.h j).new ob).nx=_)
 .rw[h.1]at a;cases a
 .rw[h.1]at a;cases a
theorem YU(a:∀i,(r i).Up)(b:∀j,j<T.n->Step E r x Z (Region.before Z) T Y j){f g:Nat}(c:f<T.n)(d:g<T.n)(e:T.kind f=1)(k:T.kind g=1)(h:(T.h f).nx=(T.h g).nx):f=g:=by
 rcases Nat.lt_trichotomy f g with l|m|p
 .have:=nJ a b g (show f+1<=g by omega) (by omega)
  rw[MX (b f c) e]at this;omega
 .exact m
 .have:=nJ a b f (show g+1<=f by omega) (by omega)
  rw[MX (b g d) k]at this;omega
theorem Yo{j:Nat}(a:Step E r x Z (Region.before Z) T Y j)(b:T.kind j≠3):(T.h (j+1)).tr=(T.h j).tr∧(T.h (j+1)).df=(T.h j).df:=by
 obtain⟨o,_,_,h|h|h|h⟩:=a
 .rw[h.2.2.2.1];exact⟨rfl,rfl⟩
 .obtain⟨_,_,c,_,⟨h',h1,d,_⟩,_⟩:=h
  obtain⟨ob,rfl,_,_⟩:=xP c h1;rw[d];exact⟨rfl,(AH.wu:((T.h j).new ob).df=_)⟩
 .rw[h.2.2.2.1];exact⟨rfl,rfl⟩
 .exact aP h.1 b
theorem Ca(d:∀j,j<T.n->Step E r x Z (Region.before Z) T Y j){a:Nat}:∀b,a<=b->b<=T.n->(∀l,a<=l->l<b->T.kind l≠3)->(T.h b).tr=(T.h a).tr∧(T.h b).df=(T.h a).df
 |0,h,_,_=>by have:a=0:=by omega
              subst this;exact⟨rfl,rfl⟩
 |b+1,h,g,e=>by
  rcases mX h with rfl|h
  .exact⟨rfl,rfl⟩
  .have h1:=Ca d b (by omega) (by omega) λl a c=>e l a (by omega)
   have f:=Yo (d b (by omega)) (e b (by omega) (by omega));exact⟨f.1.trans h1.1,f.2.trans h1.2⟩
theorem Po(R:mH Z)(h0:T.ps 0=[])(m:∀j,j<T.n->Step E r x Z (Region.before Z) T Y j):∀j,j<=T.n->∀e∈T.ps j,e.1<j∧T.kind e.1=1∧e.2.1=(T.h e.1).nx∧e.2.2=T.ob e.1∧∀l,l<j->T.kind l=3->¬Bf Z l e.1
 |0,_,e,a=>by rw[h0]at a;simp at a
 |j+1,hj,e,a=>by
  have p:=Po R h0 m j (by omega);have up:∀e,e∈T.ps j->(T.kind j=3->¬Bf Z j e.1)->e.1<j+1∧T.kind e.1=1∧e.2.1=(T.h e.1).nx∧e.2.2=T.ob e.1∧∀l,l<j+1->T.kind l=3->¬Bf Z l e.1:=λe a b=>by
   obtain⟨h1,g,q,s,t⟩:=p e a;refine⟨by omega,g,q,s,λl u c=>?_⟩;rcases aZ l j with h|h
   .exact t l h c
   .have:l=j:=by omega
    subst this;exact b c
  obtain⟨o,_,_,h|h|h|h⟩:=m j (by omega)
  .rw[h.2.2.2.2]at a;exact up e a λb=>by rw[h.1]at b;cases b
  .obtain⟨b,_,_,_,_,k⟩:=h
   rw[k]at a;rcases ay.1 a with rfl|a
   .refine⟨cB _,b,rfl,rfl,λl u c d=>?_⟩
    have:=Am R l j d;omega
   .exact up e a λf=>by rw[b]at f;cases f
  .rw[h.2.2.2.2.1]at a;exact up e a λb=>by rw[h.1]at b;cases b
  .rw[h.2.2.2]at a
   obtain⟨h1,g⟩:=L6 _ _ _ a;exact up e h1 λ_ d=>by unfold Bf at d;rw[g]at d;cases d
theorem Jv(a:oK (Region.before Z) (nV T 0 T.n)=true){D:Nat->Bool}(d:Closed Z D){l b:Nat}(e:l<T.n)(c:b<l)(k:T.kind l=3)(k':T.kind b=3)(h:D l=true):D b=true:=
 ER (f:=λp=>p.1) (E9 (C:=Closed Z) (λ_ h=>h) a) (Cr T 0 T.n) _ (Ej (bT _) (by omega) k') _ (Ej (bT _) (by omega) k) c D d h
theorem Jz(T:wK):∀m,(∀l,l<m->T.kind l≠3)∨∃p,p<m∧T.kind p=3∧∀l,p<l->l<m->T.kind l≠3
 |0=> .inl λl h=>by omega
 |m+1=>by
  by_cases a:T.kind m=3
  .exact .inr ⟨m,by omega,a,λl h1 b=>by omega⟩
  .rcases Jz T m with h|⟨p,h1,b,d⟩
   .exact .inl λl c=>by
     rcases aZ l m with h'|h'
     .exact h l h'
     .have:l=m:=by omega
      subst this;exact a
   .exact .inr ⟨p,by omega,b,λl c e=>by
     rcases aZ l m with h'|h'
     .exact d l c h'
     .have:l=m:=by omega
      subst this;exact a⟩
theorem VH(F:∀j,j<T.n->Step E r x Z (Region.before Z) T Y j)(J:∀q∈Y,qE E (Region.before Z) (nV T 0 T.n) (T.h 0) q=true)
 {D:Nat->Bool}{m:Nat}(G:m<=T.n)(H:∀l,l<T.n->T.kind l=3->(D l=true↔l<m))(L:Closed Z D){i:Nat}(hi:Ready Z D i){q:DQ}(t:q∈Y)(g:q.i=i):fA q.op E q.tm (T.h m)=some q.v:=by
 have h:=J q t;unfold qE at h;rw[av]at h;have fin:∀u:AH,u.tr=(T.h m).tr->BM E q u=true->fA q.op E q.tm (T.h m)=some q.v:=λu M d=>by
  unfold BM at d;rw[VG M]at d;split at d
  .rename_i v N;rw[N,AV.beq_eq d]
  .cases d
 have b:∀l,l<T.n->T.kind l=3->m<=l->((Region.before Z).getD q.i 0).testBit l=false:=λl h1 y z=>by
  cases k:((Region.before Z).getD q.i 0).testBit l with
  |false=>rfl
  |true=>
   have:=(H l h1 y).1 (hi.ahead l (by rw[g]at k;exact k));omega
 rcases Jz T m with I|⟨p,h1,y,z⟩
 .have e1:((nV T 0 T.n).any λp=>((Region.before Z).getD q.i 0).testBit p.1)=false:=by
   rw[List.any_eq_false];intro s a;obtain⟨_,A,c,_⟩:=tQ a;have e:m<=s.1:=by
    rcases aZ s.1 m with h|h
    .exact aP c (I s.1 h)
    .exact h
   rw[b s.1 (by omega) c e];simp
  rw[e1]at h;exact fin (T.h 0) (Ca F m (bT _) G λl _ B=>I l B).1.symm h.1
 .have d:=EP h.2 (Cr T 0 T.n) (m:=m) (λs a e=>by
   obtain⟨_,A,c,_⟩:=tQ a;exact b s.1 (by omega) c e)
   (λs a f=>by
    obtain⟨_,A,c,_⟩:=tQ a;cases k:((Region.before Z).getD s.1 0).testBit q.i with
    |false=>rfl
    |true=>
     have:=L s.1 ((H s.1 (by omega) c).2 f) q.i k;rw[g,hi.no]at this;cases this)
   _ (Ej (bT _) (by omega) y) h1 (λs a f=>by
    obtain⟨_,A,c,_⟩:=tQ a;rcases aZ p s.1 with h|h
    .exact aP c (z s.1 h f)
    .exact h)
  exact fin _ (Ca F m (by omega) G λl O C=>z l (by omega) C).1.symm d
end
end
section
open Go.Conc (G)
variable{h:AH}{o:AO}{tm:Tr AV}{w w':World}{ι ι' ι0:Nm}
section
variable{P:Program}{Y:Bool}{K:Ctx}{E:Env}{r:Nat->yj}{x:AX}{Z:Array Oper}{T:wK}{R:List DQ}{S:List AD}{U:List Item}{V:List Frame}
structure Fix(P:Program)(Y:Bool)(E:Env)(r:Nat->yj)(x:AX)(Z:Array Oper)(T:wK)(R:List DQ):Prop where
 F:Fits P E
 FF:dM P E
 hr:∀i,BR P Y E (r i)
 up:∀i,(r i).Up
 reg:mH Z
 ps0:T.ps 0=[]
 le:T.n<=Z.size
 st:∀j,j<T.n->Step E r x Z (Region.before Z) T R j
 chain:oK (Region.before Z) (nV T 0 T.n)=true
 qok:∀q∈R,qE E (Region.before Z) (nV T 0 T.n) (T.h 0) q=true
theorem Fix.dst(X:Fix P Y E r x Z T R):∀j,j<T.n->T.tm (j+1)=fin x (vN Z j) (T.v j) (T.tm j):=λj hj=>by
 obtain⟨o,h1,a,_⟩:=X.st j hj;rw[CY h1];exact a
theorem uX.xK{D:Nat->Bool}{i f:Nat}(d:f≠i)(h:uX Z T (vg D i) f):uX Z T D f:=
 ⟨h.1,by have:=h.2.1;rwa[rX d]at this,h.2.2.1,λl a b c=>h.2.2.2 l a b (LA c)⟩
theorem Inv.next(X:Fix P Y E r x Z T R){D:Nat->Bool}{m:Nat}(I:Inv K ι0 Z T D m ι w){i:Nat}(hi:Ready Z D i)(a:i<T.n)(y:T.kind i≠3)(z:sS K ι' (MD Z T (vg D i) m) w')(s:Grow ι ι' (T.h i).nx (T.h (i+1)).nx)
 (c:∀o,T.kind i=1->(T.h m).tr.get (T.h i).nx=some o->¬o.live):Inv K ι0 Z T (vg D i) m ι' w':=by
 have A:=I.free i a hi.no;refine⟨z,⟨I.grow.le,λj hj=>?_⟩,λj hj b=>?_,λl B d=>?_,I.closed.add hi,λf t o u=>?_,I.le⟩
 .have h1:=nJ X.up X.st i (bT i) (iC a)
  have C:=nJ X.up X.st T.n (show i+1<=T.n from a) (ah _);rw[s.same j (by omega),I.grow.same j hj]
 .have g:j≠i:=λe=>by subst e;rw[oL]at b;cases b
  rw[rX g]at b;have:=I.free j hj b;intro n p q;have k:n<(T.h i).nx∨(T.h (i+1)).nx<=n:=by
   rcases Nat.lt_or_gt_of_ne g with h|h
   .left;have:=nJ X.up X.st i (show j+1<=i from h) (iC a);omega
   .right;have:=nJ X.up X.st j (show i+1<=j from h) (iC hj);omega
  rw[s.same n k];exact this n p q
 .rw[rX (λe=>y (by rw[← e];exact d))];exact I.loud l B d
 .by_cases v:f=i
  .subst v;exact c o t.2.2.1 u
  .exact I.Un f (uX.xK v t) o u
def Yg(K:Ctx)(c:Nm)(nx:Nat)(x:AX)(tm:Tr AV)(S:List AD)(Z:Array Oper)(a:List Nat)(U:List Item)(V:List Frame)(h':AH):Nat->Goroutine->World->Prop:=λd g w=>
 ∃ι' b,g=G b V∧Grow c ι' nx h'.nx∧Sat K ι' h' w∧iQ ι' x tm S Z a U b∧d=h'.df
theorem Inv.done(X:Fix P Y E r x Z T R){D:Nat->Bool}{m:Nat}(I:Inv K ι0 Z T D m ι w)(a:∀i,i<T.n->D i=true)(c:∀i,T.n<=i->D i=false){fr:Frame}{b:List Nat}(H:iQ ι x (Ay x Z T D Z.size) S Z b U fr):
 Walk P Y K (Yg K ι0 (T.h 0).nx x (T.tm T.n) S Z b U V (oW (T.ps T.n) (T.h T.n))) (T.h m).df (G fr V) w:=by
 have f:∀l,m<=l->l<T.n->T.kind l≠3:=λl h1 d q=>by have:=(I.loud l d q).1 (a l d);omega
 have g:=Ca X.st T.n I.le (ah _) f;have s:Sat K ι (oW (T.ps T.n) (T.h T.n)) w:=I.sat.Mi λj o hj _=>by
  rcases GL _ _ hj with h1|⟨e,t,h1,d⟩
  .left;rw[← g.1];exact h1
  .right
   obtain⟨k,u,v,y,z⟩:=Po X.reg X.ps0 X.st T.n (ah _) e t;exact⟨e.1,⟨k,a e.1 k,u,λl A B _=>z l A B⟩,by rw[h1,v],by rw[d,y]⟩
 refine .stop λp hr=>⟨ι,fr,rfl,?_,s.rely hr,?_,?_⟩
 .rw[zX];exact I.grow
 .have h1:Ay x Z T D Z.size=T.tm T.n:=by
   rw[show D=λj=>decide (j<T.n)from funext λj=>by
    rcases aZ j T.n with h|h
    .rw[a j h];simp[h]
    .rw[c j h];simp;omega]
   rw[DU Z.size X.le];exact Ko X.dst T.n (ah _) λi hi=>by simp[hi]
  rw[h1]at H;exact H
 .rw[Jr,g.2]
theorem abd{i:Nat}:(h.put i o).tr=h.tr.set i o:=by obtain⟨tr,nx,df⟩:=h;rfl
theorem Rw{ob:AO}(a:h.nx<1000000):(h.new ob).tr.get h.nx=some ob:=by
 rw[AH.Pv,abd,Tr.AL a,aH rfl]
theorem Rv{ob:AO}(a:h.nx<1000000):(h.new ob).obj h.nx=ob:=by
 unfold AH.obj;rw[Rw a]
theorem iQ.tmc(a:Tr AV){x:AX}{todo:List Nat}{fr:Frame}(H:iQ ι x tm S Z todo U fr)(b:∀t,a.get t=tm.get t):iQ ι x a S Z todo U fr:=
 ⟨H.fn,H.tm.congr b,H.todo,H.ds,H.mode,H.kind,H.round⟩
set_option maxHeartbeats 1000000 in
theorem WL(X:Fix P Y E r x Z T R)(hP:Of K P E){Stop:Nat->Goroutine->World->Prop}{D:Nat->Bool}{m:Nat}(I:Inv K ι0 Z T D m ι w){i:Nat}(hi:Ready Z D i)(b:i<T.n){rest:List Nat}{fr:Frame}(H:ql ι x (Ay x Z T D Z.size) S Z i rest U fr)
 (hgo:∀m' ι' w' J,Inv K ι0 Z T (vg D i) m' ι' w'->iQ ι' x (Ay x Z T (vg D i) Z.size) S Z rest U J->Walk P Y K Stop (T.h m').df (G J V) w'):
 Walk P Y K Stop (T.h m).df (G fr V) w:=by
 obtain⟨o,ho,htm,hst⟩:=X.st i b;have hlook:∀t∈o.looksAt Z,(Ay x Z T D Z.size).get t=(T.tm i).get t:=λt ht=>TY X.reg X.dst I.closed hi b ho ht;have A:eX o Z (Ay x Z T D Z.size)=eX o Z (T.tm i):=Nj hlook;have B:Alike (Ay x Z T D Z.size) (T.tm i) o.op.operands.toList:=PD hlook;have N:∀t,(Ay x Z T (vg D i) Z.size).get t=(fin x o.dst (T.v i) (Ay x Z T D Z.size)).get t:=Yq X.reg I.closed hi ho;have hfr:=I.free i b hi.no;rcases hst with⟨L,hw,hv,hh,hps⟩|⟨L,hw,hf,hnx,⟨h',hl,hh,hob⟩,hps⟩|⟨L,hw,hq,hh,hps,hrd⟩|⟨L,hw,hl,hps⟩
 .
  refine Walk.of rfl λc s=>?_;have hno:∀M,Z[i]? =some M->Region.wanted M (yielded Z fr.tmps)=false:=λM Q=>by
   rw[ho]at Q;cases Q;exact jQ H.tm (by rw[A];exact hw)
  refine⟨_,c,#[],wN H hno,iA.refl c,?_⟩;have a:=I.sat.rely s;refine hgo m ι c _ (I.next X hi b (by rw[L];decide) (a.aaV λj M hm _=>?_) (by rw[hh];exact Grow.refl _ _) (λM hk'=>by rw[L]at hk';cases hk')) ?_
  .rcases hm with h1|⟨f,h1,y⟩
   .exact .inl h1
   .have k:f≠i:=λe=>by subst e;have:=h1.2.2.1;rw[L]at this;cases this
    exact .inr ⟨f,uX.xK k h1,y⟩
  .have:=H.finish ho (Ext.refl ι) (v:=gH) kS
   exact iQ.tmc _ this (by rw[← hv];exact N)
 .
  obtain⟨ob,rfl,hlive,hany⟩:=xP hf hl;obtain⟨hs,hs1,hs2,hs3⟩:∃hs:AH,hs.tr= .e∧hs.nx=(T.h i).nx∧hs.df=(T.h m).df:=⟨⟨.e,(T.h i).nx,(T.h m).df⟩,rfl,rfl,rfl⟩;have hl2:fV o.op E (Ay x Z T D Z.size) hs=some (.val (T.v i) (hs.new ob)):=by
   rw[G6 B];exact hany hs hs2
  have hnx2:(T.h (i+1)).nx=(hs.new ob).nx:=by rw[hh];show((T.h i).new ob).nx=_;rw[AH.lQ,AH.lQ,hs2]
  have hobj:T.ob i=ob:=by rw[hob];exact Rv hnx
  have hget:(hs.new ob).tr.get (T.h i).nx=some ob:=by rw[← hs2];exact Rw (by rw[hs2];exact hnx)
  refine Walk.of rfl λc s=>?_;have a:=I.sat.rely s;have SL:=a.less (X:=λ_=>True) (h:=hs) (λj M e _=>by rw[hs1,Tr.dN]at e;cases e);have hgt:=Cq (main:=Y) (cs:=V) (K:=K.less ι (MD Z T D m) (λ_=>True) c a.lo a.lt) ⟨hP.P,hP.mem,hP.pk⟩ X.F SL H ho (jQ H.tm (by rw[A];exact hw)) hl2;have hfr2:Free ι hs.nx (hs.new ob).nx:=by rw[← hnx2,hs2];exact hfr
  obtain⟨ι',J,w',es,g1,g2,g3,g4,g5,g6⟩:=hgt hfr2;have hE:Ext ι ι':=g2.ext hfr2;have u:Kept K (K.less ι (MD Z T D m) (λ_=>True) c a.lo a.lt) c w':=(Kept.refl _ _ _).fine g5;refine⟨_,w',es,g1,g5.sub sG,?_⟩;have hdf:deafBehind (T.h m).df es=(T.h m).df:=by
   rw[← hs3,g6,AH.wu]
  rw[hdf];rw[hs2,← hnx2]at g2;refine hgo m ι' w' J (I.next X hi b (by rw[L];decide) (a.more g3 hE u λj M hm z=>?_) g2 (λM _ Q z=>?_)) ?_
  .rcases hm with h1|⟨f,h1,y,h3⟩
   .exact .inr ⟨.inl h1,trivial⟩
   .by_cases k:f=i
    .subst k
     left;rw[y,h3,hobj];exact hget
    .exact .inr ⟨.inr ⟨f,uX.xK k h1,y,h3⟩,trivial⟩
  .obtain⟨p,_,e1,_⟩:=a.objs _ M (.inl Q) z
   have:=hfr (T.h i).nx (ah _) (by rw[hnx2,AH.lQ,hs2];exact cB _);rw[this]at e1;cases e1
  .exact iQ.tmc _ g4 N
 .
  have hq2:fA o.op E (Ay x Z T D Z.size) (T.h m)=some (T.v i):=by
   rw[MH B];cases hrh:oD o.op with
   |true=>exact VH (q:=⟨o.op,i,T.tm i,T.v i⟩) X.st X.qok I.le I.loud I.closed hi (hrd hrh) rfl
   |false=>rw[MG hrh (h':=T.h i)];exact hq
  refine Walk.of rfl λc s=>?_;have a:=I.sat.rely s;have SL:=a.less (X:=λj=>∃f,uX Z T D f∧j=(T.h f).nx) (h:=T.h m) (λj M e z=>⟨.inl e,λ⟨f,h1,y⟩=>I.Un f h1 M (by rw[← y];exact e) z⟩);have hgt:=quiet_step (main:=Y) (cs:=V) (K:=K.less ι (MD Z T D m) (λj=>∃f,uX Z T D f∧j=(T.h f).nx) c a.lo a.lt) ⟨hP.P,hP.mem,hP.pk⟩ X.F SL H ho (jQ H.tm (by rw[A];exact hw)) hq2;obtain⟨ι',J,w',es,g1,g2,g3,g4,g5,g6⟩:=hgt (λj h1 y=>by omega);have hι:ι'=ι:=by funext j;exact g2.same j (by omega)
  subst hι;have u:Kept K (K.less ι' (MD Z T D m) (λj=>∃f,uX Z T D f∧j=(T.h f).nx) c a.lo a.lt) c w':=(Kept.refl _ _ _).fine g5;refine⟨_,w',es,g1,g5.sub sG,?_⟩;rw[g6];refine hgo m ι' w' J (I.next X hi b (by rw[L];decide) (a.more g3 (Ext.refl _) u λj M hm z=>?_) (by rw[hh];exact Grow.refl _ _) (λM hk'=>by rw[L]at hk';cases hk')) ?_
  .rcases hm with h1|⟨f,h1,y,h3⟩
   .exact .inl h1
   .have k:f≠i:=λe=>by subst e;have:=h1.2.2.1;rw[L]at this;cases this
    exact .inr ⟨.inr ⟨f,uX.xK k h1,y,h3⟩,f,uX.xK k h1,y⟩
  .exact iQ.tmc _ g4 N
 .
  have hmi:m<=i:=by
   rcases aZ i m with h|h
   .have:=(I.loud i b L).2 h;rw[hi.no]at this;cases this
   .exact h
  have hDi:=I.closed.add hi;have hnl:∀l,m<=l->l<i->T.kind l≠3:=λl h1 y hkl=>by
   have:=Jv X.chain hDi b y L hkl (oL D i);rw[rX (by omega)]at this;have:=(I.loud l (by have:=b;omega) hkl).1 this;omega
  have htr:=Ca X.st i hmi (iC b) hnl;have hpsm:=Po X.reg X.ps0 X.st i (iC b);obtain⟨C,O⟩:∃C:AH,C=(wake ((Region.before Z).getD i 0) (T.ps i) (T.h i)).1:=⟨_,rfl⟩;have hwnx:C.nx=(T.h i).nx:=by rw[O];exact FY _ _ _
  have hwdf:C.df=(T.h m).df:=by rw[O];exact(QS _ _ _).trans htr.2
  rw[← O]at hl;have hl2:vE E (r i) C (fV o.op E (Ay x Z T D Z.size) C)=some (T.v i,T.h (i+1)):=by
   rw[G6 B];exact hl
  have SL:=I.sat.less (X:=λj=>∃f,uX Z T D f∧¬Bf Z i f∧j=(T.h f).nx) (h:=C) (λj M e z=>by
   rw[O]at e;rcases L8 _ _ _ e with h1|⟨q,hq,h1,y,h3⟩
   .rw[htr.1]at h1
    exact⟨.inl h1,λ⟨f,f1,_,f3⟩=>I.Un f f1 M (by rw[← f3];exact h1) z⟩
   .obtain⟨a1,a2,a3,a4,a5⟩:=hpsm q hq
    have hpq:uX Z T D q.1:=⟨by have:=b;omega,hi.ahead q.1 h1,a2,λl b1 b2 b3 hb=>by
     have hlm:=(I.loud l b1 b2).1 b3;exact a5 l (by omega) b2 hb⟩
    refine⟨.inr ⟨q.1,hpq,by rw[y,a3],by rw[h3,a4]⟩,λ⟨f,f1,f2,f3⟩=>?_⟩;have:f=q.1:=YU X.up X.st f1.1 hpq.1 f1.2.2.1 a2 (by rw[← f3,y,a3]);rw[this]at f2;exact f2 h1)
  have hfr':Free ι C.nx (T.h (i+1)).nx:=by rw[hwnx];exact hfr
  have W:=V6 (main:=Y) (cs:=V) (K:=K.less ι (MD Z T D m) (λj=>∃f,uX Z T D f∧¬Bf Z i f∧j=(T.h f).nx) w I.sat.lo I.sat.lt) (X.hr i) ⟨hP.P,hP.mem,hP.pk⟩ X.F X.FF SL H ho (jQ H.tm (by rw[A];exact hw)) hl2 hfr';rw[← hwdf];refine Walk.bind (Walk.frame (K:=K) (Stop:=λd g w'=>Kept K (K.less ι (MD Z T D m) (λj=>∃f,uX Z T D f∧¬Bf Z i f∧j=(T.h f).nx) w I.sat.lo I.sat.lt) w w'∧qU (K.less ι (MD Z T D m) (λj=>∃f,uX Z T D f∧¬Bf Z i f∧j=(T.h f).nx) w I.sat.lo I.sat.lt) ι C.nx x (fin x o.dst (T.v i) (Ay x Z T D Z.size)) S Z rest U V (T.h (i+1)) d g w') sG W (Kept.refl _ _ _) λd g w' h1 y=>⟨h1,y⟩) ?_
  rintro d g w' ⟨u,ι',J,rfl,g2,g3,g4,rfl⟩
  have hE:Ext ι ι':=g2.ext hfr';rw[hwnx]at g2;refine hgo (i+1) ι' w' J ⟨I.sat.more g3 hE u λj M hm z=>?_,⟨I.grow.le,λj hj=>?_⟩,λj hj hDj=>?_,λl hl hkl=>⟨λhD=>?_,λhlt=>?_⟩,hDi,λf hf M Q z=>?_,b⟩ (iQ.tmc _ g4 N)
  .rcases hm with h1|⟨f,h1,y,h3⟩
   .exact .inl h1
   .have k:f≠i:=λe=>by subst e;have:=h1.2.2.1;rw[L]at this;cases this
    exact .inr ⟨.inr ⟨f,uX.xK k h1,y,h3⟩,f,uX.xK k h1,h1.2.2.2 i b L (oL D i),y⟩
  .have h1:=nJ X.up X.st i (bT i) (iC b)
   have y:=nJ X.up X.st T.n (show i+1<=T.n from b) (ah _);rw[g2.same j (by omega),I.grow.same j hj]
  .have k:j≠i:=λe=>by subst e;rw[oL]at hDj;cases hDj
   rw[rX k]at hDj;have:=I.free j hj hDj;intro n hn1 hn2;have hout:n<(T.h i).nx∨(T.h (i+1)).nx<=n:=by
    rcases Nat.lt_or_gt_of_ne k with h|h
    .left;have:=nJ X.up X.st i (show j+1<=i from h) (iC b);omega
    .right;have:=nJ X.up X.st j (show i+1<=j from h) (iC hj);omega
   rw[g2.same n hout];exact this n hn1 hn2
  .by_cases he:l=i
   .omega
   .rw[rX he]at hD
    have:=(I.loud l hl hkl).1 hD;omega
  .rcases aZ l i with h|h
   .exact Jv X.chain hDi b h L hkl (oL D i)
   .have:l=i:=by omega
    subst this;exact oL D l
  .have k:f≠i:=λe=>by subst e;have:=hf.2.2.1;rw[L]at this;cases this
   have hobl:(T.ob f).live:=by
    obtain⟨of,hof,_,hsf⟩:=X.st f hf.1;have hkf:=hf.2.2.1;rcases hsf with h|⟨_,_,hff,hnx,⟨h',hl',_,hob⟩,_⟩|h|h
    .rw[h.1]at hkf;cases hkf
    .obtain⟨ob,rfl,hlive,_⟩:=xP hff hl'
     rw[hob];have:((T.h f).new ob).obj (T.h f).nx=ob:=Rv hnx;rw[this];exact hlive
    .rw[h.1]at hkf;cases hkf
    .rw[h.1]at hkf;cases hkf
   exact I.sat.apart g3 hE (i:=(T.h f).nx) (o:=T.ob f) ⟨f,uX.xK k hf,hf.2.2.2 i b L (oL D i),rfl⟩ (.inr ⟨f,uX.xK k hf,rfl,rfl⟩) hobl Q z
end
end
section
open Go.Conc (G)
theorem CB(ops:Array Oper)(a t:Nat)(listed:Array Bool):
 (Region.ready .any ops listed=[]∧Region.linearise.go .any ops (a+1) t listed []=[])∨
 ∃i∈Region.ready .any ops listed,Region.linearise.go .any ops (a+1) t listed []=i::Region.linearise.go .any ops a (t / (Region.ready .any ops listed).length) (listed.setIfInBounds i true) []:=by
 simp only[Region.linearise.go];change (Region.ready .any ops listed=[]∧(match(Region.ready .any ops listed)[t % (Region.ready .any ops listed).length]? with
  |some i=>Region.linearise.go .any ops a (t / (Region.ready .any ops listed).length) (listed.setIfInBounds i true) [i]
  |none=>[].reverse)=[])∨∃i∈Region.ready .any ops listed,(match(Region.ready .any ops listed)[t % (Region.ready .any ops listed).length]? with
  |some i=>Region.linearise.go .any ops a (t / (Region.ready .any ops listed).length) (listed.setIfInBounds i true) [i]
  |none=>[].reverse)=_
 cases hi:(Region.ready .any ops listed)[t % (Region.ready .any ops listed).length]? with
 |none=>
  left;refine⟨?_,rfl⟩;cases hr:Region.ready .any ops listed with
  |nil=>rfl
  |cons x b=>
   rw[hr]at hi;have c:t % (x::b).length<(x::b).length:=Nat.mod_lt _ (by simp);rw[kY]at hi;omega
 |some i=>
  right;refine⟨i,bE hi,?_⟩;simp only[];rw[linearise_go_acc,List.reverse_singleton,List.singleton_append]
theorem mem_ready{ops:Array Oper}{listed:Array Bool}(h:listed.size=ops.size){i:Nat}:i∈Region.ready .any ops listed↔i<ops.size∧Dl listed i=false∧∃o,ops[i]? =some o∧∀e∈o.after,Region.binds .any e=true->Dl listed e.on=true:=by
 unfold Region.ready;rw[fB,cZ,av];have g:∀i,i<ops.size->listed.getD i true=Dl listed i:=λi hi=>by
  unfold Dl;rw[bf,bf,bX (by omega)];rfl
 constructor
 .rintro⟨h1,b,a⟩
  rw[g i h1]at b;obtain⟨o,c⟩:=DY h1;rw[c]at a;simp only[jX,oM,Array.all_eq_true_iff_forall_mem]at a;refine⟨h1,by simpa using b,o,c,λe d f=>?_⟩;have:=a e d;unfold Dl;simpa[f]using this
 .rintro⟨h1,b,o,c,a⟩
  refine⟨h1,by rw[g i h1,b];rfl,?_⟩;rw[c];simp only[jX,oM,Array.all_eq_true_iff_forall_mem];intro e d;cases f:Region.binds .any e with
  |false=>rfl
  |true=>have:=a e d f;unfold Dl at this;simpa using this
theorem QI{listed:Array Bool}{i:Nat}(hi:i<listed.size):Dl (listed.setIfInBounds i true)=vg (Dl listed) i:=by
 funext j;have e:∀l:Array Bool,Dl l j=l[j]?.getD false:=λl=>by unfold Dl;rw[bf]
 unfold vg;rw[e,e,Array.getElem?_setIfInBounds];by_cases h:i=j
 .subst h;simp[hi]
 .have:(j==i)=false:=by simp;omega
  simp[h,this]
theorem G8{n:Nat}{listed:Array Bool}{i:Nat}(hi:i<n)(f:listed.size=n)(c:Dl listed i=false):left' n (listed.setIfInBounds i true)<left' n listed:=by
 unfold left';rw[QI (by omega)];have a:((List.range n).filter λj=>vg (Dl listed) i j==false).Sublist ((List.range n).filter λj=>Dl listed j==false):=by
  have:((List.range n).filter λj=>vg (Dl listed) i j==false)=(((List.range n).filter λj=>Dl listed j==false).filter λj=>vg (Dl listed) i j==false):=by
   rw[List.filter_filter];refine List.filter_congr λj _=>?_;simp only[vg];cases Dl listed j<;>cases(j==i)<;>rfl
  rw[this];exact List.filter_sublist
 have e:=a.length_le;rcases aZ ((List.range n).filter λj=>vg (Dl listed) i j==false).length ((List.range n).filter λj=>Dl listed j==false).length with h|h
 .exact h
 .have d:=a.eq_of_length_le h
  have b:i∈(List.range n).filter λj=>Dl listed j==false:=fB.2 ⟨cZ.2 hi,by rw[c];rfl⟩;rw[← d]at b;have:=(fB.1 b).2;rw[oL]at this;cases this
section
variable{P:Program}{main:Bool}{K:Ctx}{E:Env}{r:Nat->yj}{x:AX}{Z:Array Oper}{T:wK}{U:List DQ}{V:List AD}{Y:List Item}{cs:List Frame}
theorem Il(R:mH Z){listed:Array Bool}(b:listed.size=Z.size)(h:Region.ready .any Z listed=[]):∀i,i<Z.size->Dl listed i=true:=by
 intro i;induction i using Nat.strongRecOn with
 |ind i c=>
  intro hi;cases d:Dl listed i with
  |true=>rfl
  |false=>
   obtain⟨o,a⟩:=DY hi;have:i∈Region.ready .any Z listed:=(mem_ready b).2 ⟨hi,d,o,a,λe f g=>by
    have:=R.edge i o a e f g;exact c e.on this (by omega)⟩
   rw[h]at this;simp at this
theorem VF(R:mH Z){listed:Array Bool}(c:listed.size=Z.size)(d:Closed Z (Dl listed)){i:Nat}(h:i∈Region.ready .any Z listed):Ready Z (Dl listed) i:=by
 obtain⟨h1,f,o,g,j⟩:=(mem_ready c).1 h;refine⟨h1,f,λp hp=>?_⟩;obtain⟨e,k,l,a⟩:=zo g hp;have b:=j e k l;rcases a with rfl|⟨_,a⟩
 .exact b
 .exact d e.on b p a
def OP(K:Ctx)(b:Nm)(nx n:Nat)(x:AX)(tm:Tr AV)(V:List AD)(Z:Array Oper)(Y:List Item)(cs:List Frame)(h':AH):Nat->Goroutine->World->Prop:=λd g w=>
 ∃a,Left Z n a∧Yg K b nx x tm V Z a Y cs h' d g w
theorem Zy(X:Fix P main E r x Z T U)(D:Of K P E)(p:∀i,T.n<=i->i<Z.size->∀j,j<T.n->Bf Z i j){q:Nm}:∀(a t:Nat) (listed:Array Bool) (m:Nat) (ι:Nm) (w:World) (fr:Frame),listed.size=Z.size->left' Z.size listed<=a->(∀i,T.n<=i->Dl listed i=false)->
 Inv K q Z T (Dl listed) m ι w->iQ ι x (Ay x Z T (Dl listed) Z.size) V Z (Region.linearise.go .any Z a t listed []) Y fr->
 Walk P main K (OP K q (T.h 0).nx T.n x (T.tm T.n) V Z Y cs (oW (T.ps T.n) (T.h T.n))) (T.h m).df (G fr cs) w:=by
 intro a;induction a with
 |zero=>
  intro t listed m ι w fr e f c I H;have b:∀i,i<T.n->Dl listed i=true:=λi hi=>by
   have v:i<Z.size:=gZ hi X.le;cases k:Dl listed i with
   |true=>rfl
   |false=>
    have:i∈(List.range Z.size).filter λi=>Dl listed i==false:=fB.2 ⟨cZ.2 v,by rw[k];rfl⟩;have:=List.length_pos_of_mem this;unfold left' at f;omega
  refine(I.done X b c H).mono λd g w' h=>⟨_,⟨0,t,listed,e,f,λi=>?_,rfl⟩,h⟩;rcases aZ i T.n with h|h
  .rw[b i h];simp[h]
  .rw[c i h];simp;omega
 |succ a F=>
  intro t listed m ι w fr e f c I H;by_cases b:∀i,i<T.n->Dl listed i=true
  .refine(I.done X b c H).mono λd g w' h=>⟨_,⟨a+1,t,listed,e,f,λi=>?_,rfl⟩,h⟩
   rcases aZ i T.n with h|h
   .rw[b i h];simp[h]
   .rw[c i h];simp;omega
  .obtain⟨o,s,u⟩:∃o,o<T.n∧Dl listed o=false:=by
    refine Classical.byContradiction λJ=>b λi hi=>?_;cases k:Dl listed i with
    |true=>rfl
    |false=>exact aP ⟨i,hi,k⟩ J
   rcases CB Z a t listed with⟨h1,A⟩|⟨i,h1,A⟩
   .have:=Il X.reg e h1 o (gZ s X.le)
    rw[u]at this;cases this
   .rw[A]at H
    have hi:=VF X.reg e I.closed h1;have y:i<T.n:=by
     rcases aZ i T.n with h|h
     .exact h
     .have:=hi.ahead o (p i h hi.lt o s)
      rw[u]at this;cases this
    have L:ql ι x (Ay x Z T (Dl listed) Z.size) V Z i (Region.linearise.go .any Z a (t / (Region.ready .any Z listed).length) (listed.setIfInBounds i true) []) Y fr:=⟨H.fn,H.tm,H.todo,H.ds,H.mode,H.kind,H.round⟩;refine WL X D I hi y L λM ι' w' z B C=>?_;have k:=QI (listed:=listed) (i:=i) (by rw[e];exact hi.lt);rw[← k]at B C;refine F _ _ M ι' w' z (by simp[e]) (by have:=G8 hi.lt e hi.no;omega) (λl f=>?_) B C;rw[k,rX (by omega)];exact c l f
theorem JK(F:Fits P E)(FF:dM P E)(hr:∀i,BR P main E (r i))(b:∀i,(r i).Up){n:Nat}(u:n<=Z.size)(k:∀i,n<=i->i<Z.size->∀j,j<n->Bf Z i j){ι:Nm}{w:World}{tm c:Tr AV}{t:Nat}{fr:Frame}{h h':AH}(A:Of K P E)(S:Sat K ι h w)
 (H:iQ ι x tm V Z (Region.linearise .any Z t) Y fr)(m:yu Z.toList (Region.before Z) Z=true)(e:wQ E r x (Region.before Z) Z h (Z.toList.take n) 0 tm [] [] [] h=some (c,h'))(v:Free ι h.nx h'.nx):
 Walk P main K (OP K ι h.nx n x c V Z Y cs h') h.df (G fr cs) w:=by
 have R:=ME m;obtain⟨T,U,t0,t1,t2,t3,t4,_,t6,y,z⟩:=Vz u (Z.toList.take n) 0 tm [] [] [] h _ (bT _) rfl e;subst t0;simp only[List.reverse_nil,nA,Nat.sub_zero]at t6 y;have X:Fix P main E r x Z T U:=⟨F,FF,hr,b,R,t3,u,λj hj=>t4 j (bT _) hj,t6,by rw[t2];exact y⟩;have e1:c=T.tm T.n:=(iH z).1;have e2:h'=oW (T.ps T.n) (T.h T.n):=(iH z).2;subst e1;subst e2;have d:Dl (Array.replicate Z.size false)=λ_=>false:=by
  funext j;unfold Dl;rw[bf,Array.getElem?_replicate];split<;>rfl
 have p:∀f,¬uX Z T (λ_=>false) f:=λf hp=>by have:=hp.2.1;cases this
 have q:Free ι (T.h 0).nx (T.h T.n).nx:=by rw[t2];rw[zX]at v;exact v
 have g:=nJ b X.st (a:=0) T.n (bT _) (ah _);have I:Inv K ι Z T (Dl (Array.replicate Z.size false)) 0 ι w:=by
  rw[d];refine⟨S.toM λi o B _=>?_,⟨g,λ_ _=>rfl⟩,λj hj _=>?_,(λl _ _=>⟨λh=>(by cases h),λh=>(by omega)⟩),(λi hi=>(by cases hi)),(λf hp=>aP hp (p f)),bT _⟩
  .rcases B with h1|⟨f,h1,_⟩
   .rw[t2]at h1;exact h1
   .exact aP h1 (p f)
  .have h1:=nJ b X.st j (bT j) (iC hj)
   have C:=nJ b X.st T.n (show j+1<=T.n from hj) (ah _);exact q.sub h1 C
 have D:iQ ι x (Ay x Z T (Dl (Array.replicate Z.size false)) Z.size) V Z (Region.linearise.go .any Z Z.size t (Array.replicate Z.size false) []) Y fr:=by
  refine iQ.tmc _ H λs=>?_;rw[d];have:∀n,Ay x Z T (λ_=>false) n=tm:=by
   intro n;induction n with
   |zero=>exact t1
   |succ n J=>exact J
  rw[this]
 have W:=Zy (cs:=cs) X A k Z.size t (Array.replicate Z.size false) 0 ι w fr (by simp) (by
  unfold left';exact aQ (List.length_filter_le _ _) (by simp)) (λi _=>by rw[d]) I D
 rw[t2]at W;exact W
theorem Wj{b:List Nat}(h:Left Z Z.size b):b=[]:=by
 obtain⟨a,t,listed,d,_,e,rfl⟩:=h;cases a with
 |zero=>rfl
 |succ a=>
  rcases CB Z a t listed with⟨_,f⟩|⟨i,h1,_⟩
  .exact f
  .obtain⟨g,c,_⟩:=(mem_ready d).1 h1
   rw[e i]at c;simp at c;omega
theorem Gi(F:Fits P E)(FF:dM P E)(hr:∀i,BR P main E (r i))(b:∀i,(r i).Up):Yf P main E r:=by
 intro K ι w x tm V Z t Y fr cs h l h' m S H a e n;have f:Z.toList=Z.toList.take Z.size:=by rw[jk (by simp)]
 rw[f]at e;refine(JK F FF hr b (ah _) (λi h1 y=>by omega) m S H (by rw[← f]at*;exact a) e n).mono λd g w' o=>?_;obtain⟨j,p,ι',c,q,s,u,k,v⟩:=o;rw[Wj p]at k;exact⟨ι',c,q,s,u,k,v⟩
theorem runF_ok(F:Fits P E)(FF:dM P E)(n:Nat):Bb P E main (qW E n):=by
 induction n with
 |zero=>intro K ι w fr c a f h v h' _ e;cases e
 |succ n b=>exact Ml F FF b (Ck n) (Gi F FF (λ_=>F6 b FF) (λ_=>zZ (Ck n)))
end
end
section
open Go.Conc (G)
variable{es:Array Event}{f':AF}{fn:FuncId}{w:World}
inductive T1 where
 |go (f:AF)
 |call (f:AF) (dst:Option Tmp) (g:FuncId) (args:List AV)
 |dcall (f:AF) (g:FuncId) (args:List AV)
 |conv (f:AF) (dst:Option Tmp) (id off:Nat)
 |spawn (f:AF) (g:FuncId) (args:List AV)
 |ret (v:AV)
noncomputable def resT(tm:Tr AV):List ResultVar->Option (List AV)
 |[]=>some []
 | .tmp t::l=>(match resT tm l with |some r=>some (ev tm (.tmp t)::r)|none=>none)
 | .cell _ _::_=>none
def CX:AH:=⟨.e,0,0⟩
noncomputable def Xk(x:AX)(tm:Tr AV)(td:List AI)(ds:List AD)(d:Option Tmp):Option OR->Option T1
 |some (.call g args)=>some (.call ⟨x,tm,td,ds,false⟩ d g args)
 |_=>none
noncomputable def opT(E:Env)(x:AX)(tm:Tr AV)(td:List AI)(ds:List AD)(o:Oper):Option T1:=
 match(cond (oD o.op) none (fA o.op E.blind tm CX))with
 |some v=>some (.go ⟨x,fin x o.dst v tm,td,ds,false⟩)
 |none=>match o.op with
  | .call c=>(match c.callee with | .value _=>Xk x tm td ds o.dst (fV o.op E tm CX)|_=>none)
  | .convert s d y=>(match E.d s,E.d d,ev tm y with
    |some (.ptr e),some .Km,.ptr id off=>(match E.tt.get e with
     |some ti=>cond (Nat.beq ti.size 0) none (some (.conv ⟨x,tm,td,ds,false⟩ o.dst id off))
     |none=>none)
    |_,_,_=>none)
  | .defer _=>(match x.round,fV o.op E tm CX with
    |none,some (.rz a)=>some (.go ⟨x,fin x o.dst gH tm,td,a::ds,false⟩)
    |_,_=>none)
  | .go c=>(match c.callee with
    | .value g=>(match ev tm g with
      | .fn f a b=>some (.spawn ⟨x,fin x o.dst gH tm,td,ds,false⟩ f (a++evs tm c.args.toList++b))
      |_=>none)
    |_=>none)
  |_=>none
noncomputable def KH(E:Env)(x:AX)(tm:Tr AV)(ds:List AD)(k:List AI)(b:Array Oper)(o:Oper)(a:List Oper):Option T1:=
 match eX o b tm with
 |some true=>opT E x tm (JE b a k) ds o
 |some false=>some (.go ⟨x,fin x o.dst gH tm,JE b a k,ds,false⟩)
 |none=>none
def goT:Option A1->Option T1
 |some (.go f _)=>some (.go f)
 |_=>none
def Ee(x:AX):Code->Bool
 | .rangeFunc .. =>false
 | .region _ _ a=> !a
 | .ret| .exit _| .goto _=>x.round.isNone
 | .refuse _=>false
 |_=>true
noncomputable def stepT(E:Env)(f:AF):Option T1:=
 match f with
 |⟨x,tm,td,ds,true⟩=>(match ds with
  |d::b=>(match d.f with
   | .fn g first cap=>some (.dcall ⟨x,tm,td,b,true⟩ g (first++d.args++cap))
   |_=>none)
  |[]=>(match E.ft.get x.fn with
   |some ⟨some _,_,h,_⟩=>(match resT tm h with
    |some [v]=>some (.ret v)
    |some l=>some (.ret (.bV l))
    |none=>none)
   |_=>none))
 |⟨x,tm,[],ds,false⟩=>(match x.round with |none=>some (.go ⟨x,tm,[],ds,true⟩)|some _=>none)
 |⟨x,tm,i::k,ds,false⟩=>(match i with
  | .code c=>cond (Ee x c) (goT (HY E c k x tm ds CX)) none
  | .inBlock _=>some (.go ⟨x,tm,k,ds,false⟩)
  | .inScope _=>some (.go ⟨x,tm,k,ds,false⟩)
  | .inLoop body=>some (.go ⟨x,tm,.code body:: .inLoop body::k,ds,false⟩)
  | .inRegion e l=>(match l with
    |[]=>some (.go ⟨x,tm,k,ds,false⟩)
    |o::a=>KH E x tm ds k e o a)
  |_=>none)
def Still(P:Program)(main:Bool)(fr:Frame)(cs:List Frame)(w:World)(a:Frame):Prop:=
 ∃es,stepG P main (G fr cs) w= .go (G a cs) w es∧∀e∈es,e.loc= .mark .noRoom
def BP(ι:Nm)(f:AF)(dst:Option Tmp)(fr:Frame):Prop:=∀v u,RV ι v u->RF ι ⟨f.x,fin f.x dst v f.tm,f.todo,f.ds,false⟩ (fr.finish u)
def Dx(P:Program)(main:Bool)(fr:Frame)(cs:List Frame)(w:World)(g:FuncId)(vs:Array Value)(back:Value->Frame):Prop:=
 ∀u w' es,aj P (callFunc g vs) w (.value u) w' es->stepG P main (G fr cs) w= .go (G (back u) cs) w' (seen P fr.fn es.toArray)
def X4(P:Program)(main:Bool)(E:Env)(ι:Nm)(fr:Frame)(cs:List Frame):T1->Prop
 | .go f'=>∀w,∃a,Still P main fr cs w a∧RF ι f' a
 | .call f' d g args=>BP ι f' d fr∧fr.mode= .run∧∃vs:Array Value,dJ ι args vs.toList∧∀w,
  (∀c n f x,E.ft.get g=some ⟨some c,n,f,x⟩->stepG P main (G fr cs) w= .go (G (Frame.enter P g vs .normal) (fr::cs)) w #[])∧
  Dx P main fr cs w g vs (λu=>fr.finish u)∧
  (∀w2 es,(callFunc g vs).runT P w #[]=(.halt .blocked w2,es)->stepG P main (G fr cs) w= .go { G fr cs with status:= .blocked } w2 #[])
 | .dcall f' g args=>∃(vs:Array Value) (a:Frame),dJ ι args vs.toList∧RF ι f' a∧a.mode= .returning∧a.fn=fr.fn∧∀w,
  (∀c n f x,E.ft.get g=some ⟨some c,n,f,x⟩->stepG P main (G fr cs) w= .go (G (Frame.enter P g vs .deferred) (a::cs)) w #[])∧
  (∀u w' es,aj P (callFunc g vs) w (.value u) w' es->stepG P main (G fr cs) w= .go (G a cs) w' (seen P fr.fn es.toArray))
 | .conv f' d id off=>BP ι f' d fr∧∃p,ι id=some p∧∀w (c:Array Value) (T:TypeId) (fz:Nat×Nat),w.heap[p.1]? =some (.cells c T fz)->off<c.size->
  ∃es,stepG P main (G fr cs) w= .go (G (fr.finish (.pointer (some ⟨p.1,off,none⟩))) cs) w es∧∀e∈es,e.loc= .mark .noRoom
 | .spawn f' g args=>∃(h as b:Array Value),dJ ι args ((h++as)++b).toList∧∃a,RF ι f' a∧
  ∀w,stepG P main (G fr cs) w= .spawn (G a cs) (Conc.born P { target:= .fn (.func g) b,args:=h++as }) w #[]
 | .ret v=>∃u,RV ι v u∧∀w,stepG P main (G fr cs) w=GStep.after #[] (doReturn P main fr cs none u w)
section
variable{P:Program}{Z:Bool}{E:Env}{U:Nm}{x:AX}{X:Tr AV}{W:List AD}{Y:Frame}{V:List Frame}
def here(P:Program)(w:World):Ctx:=⟨P,w,λb=>b<w.heap.size,w.heap.size,λb=>w.heap.size<=b,λ_ h=>h,False⟩
theorem Vw(P:Program)(U:Nm)(w:World):Sat (here P w) U CX w:=
 ⟨(λi o e=>(by rw[show CX.tr.get i=none from Tr.dN i]at e;cases e)),(λi j o a p q e=>(by rw[show CX.tr.get i=none from Tr.dN i]at e;cases e)),ah _,λ_ h=>h,λ_ _=>rfl,rfl,rfl,rfl,λh=>h.elim⟩
theorem Zu{P:Program}{e:Event}(h:xE (here P w) w.heap.size e):e.loc= .mark .noRoom∨∃f,e.loc= .mark (.extern f):=by
 obtain⟨c,wr,d⟩:=e;cases c with
 |cell a=>
  have h1:=h.1;have b:=h.2;simp only[here]at h1;rcases h1 with h1|h1
  .omega
  .exact h1.1.elim
 |obj r=>have h1:=h.1;have b:=h.2.2.1;simp only[here]at h1;omega
 |mark m=>
  cases m with
  |acquire a=>have h1:=h.1;have b:=h.2.2;simp only[here]at h1;omega
  |release a=>have h1:=h.1;have b:=h.2.2;simp only[here]at h1;omega
  |releaseMerge a=>have h1:=h.1;have b:=h.2.2;simp only[here]at h1;omega
  |read a=>have h1:=h.1;have b:=h.2.2;simp only[here]at h1;omega
  |write a=>have h1:=h.1;have b:=h.2.2;simp only[here]at h1;omega
  |disable=>exact h.elim
  |enable=>exact h.elim
  |extern f=>exact .inr ⟨f,rfl⟩
  |noRoom=>exact .inl rfl
 |output=>exact h.elim
 |goroutines=>exact h.elim
theorem FB(b:FuncId->Bool):∀(l:List Event) (q:Bool) (kept:Array Event) (e:Event),e∈(l.foldl (Conc.seenStep b) (q,kept)).2->e∈kept∨∀f,e.loc≠.mark (.extern f):=by
 intro l;induction l with
 |nil=>exact λ_ _ _ h=> .inl h
 |cons a l d=>
  intro q kept e h;simp only[jZ,Conc.seenStep]at h;split at h
  .exact d _ _ _ h
  .rename_i c
   rcases d _ _ _ h with h|h
   .split at h
    .exact .inl h
    .rcases Array.mem_push.1 h with h|rfl
     .exact .inl h
     .exact .inr λf g=>c f g
   .exact .inr h
theorem Pf{P:Program}{e:Event}(h:e∈seen P fn es):∀f,e.loc≠.mark (.extern f):=by
 rw[Conc.seen_def]at h;rcases FB _ es.toList _ #[] e h with h|h
 .simp at h
 .exact h
theorem Tx{P:Program}{es:List Event}(h:∀e∈es,xE (here P w) w.heap.size e):∀e∈seen P fn es.toArray,e.loc= .mark .noRoom:=λe a=>by
 rcases Zu (h e (by simpa using Conc.mem_seen a))with h1|⟨f,h1⟩
 .exact h1
 .exact aP h1 (Pf a f)
theorem Gv(a:Y.mode= .run){l:List Item}(b:∀w,stepG.exec P Z true Y V none w= .go (G { Y with todo:=l } V) w)(w:World):Still P Z Y V w { Y with todo:=l }:=
 ⟨#[],by have:=b w;simp[G,stepG,a]at this ⊢;rw[this],by simp⟩
theorem VJ(F:Fits P E)(FF:dM P E){c:Code}{k:List AI}(R:RF U ⟨x,X,.code c::k,W,false⟩ Y)(hp:Ee x c=true)(e:goT (HY E c k x X W CX)=some (.go f'))(w:World):∃d,Still P Z Y V w d∧RF U f' d:=by
 have B:Y.mode= .run:=by simpa using R.mode
 obtain⟨i,h,j,rfl,m⟩:=R.todo;have mk:∀{l:List Item} {td:List AI},(∀w,stepG.exec P Z true Y V none w= .go (G { Y with todo:=l } V) w)->Fx U td l->f'=⟨x,X,td,W,false⟩->∃d,Still P Z Y V w d∧RF U f' d:=λv D y=>⟨_,Gv B v w,by rw[y];exact R.to D⟩;have q:x.round=none->(∀w,stepG.exec P Z true Y V none w= .go (G { Y with mode:= .returning } V) w)->f'=⟨x,X,.code c::k,W,true⟩->∃d,Still P Z Y V w d∧RF U f' d:=λ_ v y=>
  ⟨{ Y with mode:= .returning },⟨#[],by have:=v w;simp[G,stepG,B]at this ⊢;rw[this],by simp⟩,by rw[y];exact⟨R.fn,R.tm,R.todo,R.ds,rfl,R.kind,R.round⟩⟩
 cases c with
 |skip=>cases e;exact mk (l:=h) (λw=>by unfold stepG.exec;simp only[j];rfl) m rfl
 |label n=>cases e;exact mk (l:=h) (λw=>by unfold stepG.exec;simp only[j];rfl) m rfl
 |ret=>
  have p:x.round=none:=by simpa[Ee]using hp
  have hr:Y.roundOf=none:=by have:=R.round;simp only[p]at this;exact this
  have e:goT (kX x X (.code .ret::k) W CX (some .ret))=some (.go f'):=e;unfold kX at e;simp only[p,goT]at e;cases e;exact q p (λw=>by unfold stepG.exec;simp only[j,hr];rfl) rfl
 |seq a b=>cases e;exact mk (td:= .code a:: .code b::k) (l:= .code a:: .code b::h) (λw=>by unfold stepG.exec;simp only[j];rfl) (.cons rfl (.cons rfl m)) rfl
 |cond c a b=>
  have e:goT (match ev X c with
   | .bool t=>some (A1.go ⟨x,X,.code (cond t a b)::k,W,false⟩ CX)
   |_=>none)=some (.go f'):=e
  cases C:ev X c<;>rw[C]at e<;>try (cases e;done)
  rename_i t;cases e;have u:=R.tm.ev Y rfl c;rw[C]at u;have u:Y.eval c= .bool t:=pG u;exact mk (td:= .code (cond t a b)::k) (l:= .code (if t then a else b)::h) (λw=>by unfold stepG.exec;simp only[j,u];rfl) (.cons (i:= .code (if t then a else b)) (by cases t<;>rfl) m) rfl
 |block id body=>cases e;exact mk (td:= .code body:: .inBlock id::k) (l:= .code body:: .inBlock id::h) (λw=>by unfold stepG.exec;simp only[j];rfl) (.cons rfl (.cons rfl m)) rfl
 |loop body=>cases e;exact mk (td:= .code body:: .inLoop body::k) (l:= .code body:: .inLoop body::h) (λw=>by unfold stepG.exec;simp only[j];rfl) (.cons rfl (.cons rfl m)) rfl
 |scope body=>cases e;exact mk (td:= .code body:: .inScope body::k) (l:= .code body:: .inScope body::h) (λw=>by unfold stepG.exec;simp only[j];rfl) (.cons rfl (.cons rfl m)) rfl
 |exit id=>
  have p:x.round=none:=by simpa[Ee]using hp
  have hr:Y.roundOf=none:=by have:=R.round;simp only[p]at this;exact this
  have e:goT (match yA id k with
   |some h=>some (A1.go ⟨x,X,h,W,false⟩ CX)
   |none=>kX x X (.code (.exit id)::k) W CX (some (.exit id)))=some (.go f'):=e
  cases f:yA id k with
  |some H=>
   rw[f]at e;cases e;obtain⟨z,h1,A⟩:=nZ f m;exact mk (l:=z) (λw=>by unfold stepG.exec;simp only[j,h1];rfl) A rfl
  |none=>
   rw[f]at e;unfold kX at e;simp only[p,goT]at e;cases e
 |goto l=>
  have p:x.round=none:=by simpa[Ee]using hp
  have e:goT (match yw l k with
   |some h=>some (A1.go ⟨x,X,h,W,false⟩ CX)
   |none=>kX x X (.code (.goto l)::k) W CX (some (.goto l)))=some (.go f'):=e
  cases f:yw l k with
  |some H=>
   rw[f]at e;cases e;obtain⟨z,h1,A⟩:=nY f m;exact mk (l:=z) (λw=>by unfold stepG.exec;simp only[j,h1];rfl) A rfl
  |none=>
   rw[f]at e;unfold kX at e;simp only[p,goT]at e;cases e
 |rangeFunc g ps a b=>cases hp
 |region id o r=>
  cases r with
  |false=>cases e;exact mk (td:=JE o o.toList k) (l:= .inRegion o (List.range o.size)::h) (λw=>by unfold stepG.exec;simp only[j];rfl) (.cons ⟨0,rfl,rfl⟩ m) rfl
  |true=>cases hp
 |refuse s=>cases hp
end
end
section
open Go.Conc (G)
variable{es:Array Event}{gop:Operand}{j:Nat}{ops:Array Oper}{w w2:World}
section
variable{P:Program}{main:Bool}{E:Env}{Y:Nm}{x:AX}{X:Tr AV}{W:List AD}{Z:Frame}{cs:List Frame}
theorem Bo{ρ:Operand->Value}{c:Call}{ty:TypeId}{a:Operand}(d:c.callee= .value a){i:FuncId}{b cc:Array Value}(e:ρ a= .func (.func i) b cc)(w:World):
 aj P (resolve ρ c ty) w { target:= .fn (.func i) cc,args:=b++c.args.map ρ } w []:=by
 unfold resolve;rw[d];simp only[e];exact aj.pure _
theorem Je{Z:Frame}(a:(Z.kind==CallKind.early)=false){s:Sem Next}(h:s.runT P w #[]=(.halt .blocked w2,es)):stepG.apply P true Z cs none s w= .go { G Z cs with status:= .blocked } w2 #[]:=by
 unfold stepG.apply;simp only[if_true,h,a];simp[GStep.after,G,seen]
theorem Xj(FF:dM P E){a:List Oper}{k:List AI}{B:List Item}(H:ql Y x X W ops j ((List.range ops.size).drop (j+1)) B Z){o:Oper}(m:ops[j]? =some o)
 (f:a=ops.toList.drop (j+1))(G:Fx Y k B)(p:Region.wanted o (yielded ops Z.tmps)=true){c:Call}(g:o.op= .call c)(C:c.callee= .value gop){r:T1}
 (e:Xk x X (JE ops a k) W o.dst (fV o.op E X CX)=some r):X4 P main E Y Z cs r:=by
 rw[g]at e;have e:Xk x X (JE ops a k) W o.dst (AU c E X CX)=some r:=e;unfold AU at e;rw[C]at e;simp only at e;have q:Z.roundOf=none∨∀c,o.op≠.defer c:= .inr λJ h=>by rw[g]at h;cases h
 unfold Sn at e;split at e
 .rename_i i first cap hv
  cases e;have D:=H.Pg gop;rw[hv]at D;obtain⟨F,cc,s,I,t⟩:=wB D;have l:dJ Y (evs X c.args.toList) (c.args.map Z.eval).toList:=by simpa using uh H.Pg c.args.toList
  have b:∀w,(execOp Z.eval o).runT P w #[]=(callFunc i ((F++c.args.map Z.eval)++cc)).runT P w #[]:=λw=>by
   unfold execOp;rw[g];simp only;exact aj.yP (Bo C s w) (λd=>invoke d.target d.args) #[]
  refine⟨λv u y=>(H.finish m (Ext.refl Y) y).rf G f,H.mode,(F++c.args.map Z.eval)++cc,?_,λw=>⟨λK n L ex z=>?_,λu w' es A=>?_,λw2 es A=>?_⟩⟩
  .simp only[dz]
   exact(I.append l).append t
  .exact Jt FF H m p q (b w) z
  .rw[nE H m p q,sN (b w)]
   exact uf H A (v:= .any) (ι':=Y) (by unfold Yields RV;trivial)
  .rw[nE H m p q,sN (b w)]
   exact Je (je H.kind) A
 .cases e
 .cases e
theorem WY(F:Fits P E){s d el:TypeId}(a:E.d s=some (.ptr el))(e:E.d d=some .Km){ti:TI}(g:E.tt.get el=some ti)(h:ti.size≠0){w:World}{b off:Nat}{c:Array Value}{T:TypeId}{fz:Nat×Nat}(f:w.heap[b]? =some (.cells c T fz))(i:off<c.size):
 aj P (convert s d (.pointer (some ⟨b,off,none⟩))) w (.pointer (some ⟨b,off,none⟩)) w []:=by
 unfold convert;refine aj.aG (aj.underlying (sK F a)) ?_;refine aj.aG (aj.underlying (uw F e)) ?_;unfold Conv.unsafePointer;refine aj.aG (aj.underlying (sK F a)) ?_;refine aj.aG (aj.underlying (uw F e)) ?_;refine aj.aG (zH f) ?_;refine aj.aG (Dr f) ?_;refine aj.aG (dL (lq F g)) ?_;simp only[h,decide_false,Bool.false_or,Option.isNone_none,Bool.and_true];have j:¬(c.size<=off):=by omega
 simp[j];exact aj.pure _
theorem PU(F:Fits P E):Fits P E.blind:=by
 obtain⟨⟩:=F;constructor<;>assumption
theorem abn(F:Fits P E)(FF:dM P E){C:List Oper}{k:List AI}{V:List Item}(H:ql Y x X W ops j ((List.range ops.size).drop (j+1)) V Z){o:Oper}(A:ops[j]? =some o)
 (l:C=ops.toList.drop (j+1))(O:Fx Y k V)(Q:Region.wanted o (yielded ops Z.tmps)=true){r:T1}(e:opT E x X (JE ops C k) W o=some r):X4 P main E Y Z cs r:=by
 unfold opT at e;split at e
 .rename_i v t
  cases e;have hq:fA o.op E.blind X CX=some v:=by
   cases hr:oD o.op with
   |true=>rw[hr]at t;cases t
   |false=>rw[hr]at t;exact t
  have R:Z.roundOf=none∨∀c,o.op≠.defer c:= .inr λc z=>by rw[E5 z]at hq;cases hq
  intro w;obtain⟨u,es,h1,N,h3⟩:=MF (K:=here P w) (E:=E.blind) ⟨rfl,λ_ _ _ e=>(by cases e),λh=>(by cases h)⟩ (PU F) (Vw P Y w) H.Pg hq;refine⟨Z.finish u,⟨seen P Z.fn es.toArray,?_,Tx h3⟩,(H.finish A (Ext.refl Y) N).rf O l⟩;rw[nE H A Q R];exact uf H h1 (v:=v) (ι':=Y) N
 .split at e
  .rename_i c m
   split at e
   .rename_i g z
    exact Xj FF H A l O Q m z e
   .cases e
  .rename_i s d y m
   split at e
   .rename_i el id off hs hdd t
    split at e
    .rename_i ti ht
     cases U:Nat.beq ti.size 0 with
     |true=>rw[U]at e;cases e
     |false=>
      rw[U]at e;cases e;have hz':ti.size≠0:=λh=>by rw[h]at U;cases U
      have R:Z.roundOf=none∨∀c,o.op≠.defer c:= .inr λc z=>by rw[m]at z;cases z
      have hy:=H.Pg y;rw[t]at hy;obtain⟨p,hp,hyv⟩:=iV hy;refine⟨λv u hv'=>(H.finish A (Ext.refl Y) hv').rf O l,p,hp,λw c T fz hb hlt=>?_⟩;have n:=WY (P:=P) F hs hdd ht hz' hb hlt;have hx:aj P (execOp Z.eval o) w (.value (.pointer (some ⟨p.1,off,none⟩))) w []:=by
       unfold execOp;rw[m];simp only[hyv];have:=aj.bind (e2:=[]) n (aj.pure (P:=P) (w:=w) (Next.value (.pointer (some ⟨p.1,off,none⟩)))) (f:=λv=>Pure.pure (Next.value v));simpa using this
      refine⟨#[],?_,by simp⟩;rw[nE H A Q R];have:=uf (cs:=cs) H hx (v:= .any) (ι':=Y) (by unfold Yields RV;trivial);rw[this];rfl
    .cases e
   .cases e
  .rename_i c m
   split at e
   .rename_i a hr D
    cases e;have hrd:Z.roundOf=none:=by have:=H.round;rw[hr]at this;exact this
    rw[m]at D;have D:(match c.callee with
     | .value g=>(match ev X g with
       | .fn f a b=>some (OR.rz ⟨.fn f a b,evs X c.args.toList⟩)
       |_=>none)
     |_=>none)=some (.rz a):=D
    split at D
    .rename_i I z
     split at D
     .rename_i i first cap t
      cases D;have S:=H.Pg I;rw[t]at S;obtain⟨B,cc,J,hf,L⟩:=wB S;have q:dJ Y (evs X c.args.toList) (c.args.map Z.eval).toList:=by simpa using uh H.Pg c.args.toList
      intro w;have n:(execOp Z.eval o).runT P w #[]=(.ok (.defer { target:= .fn (.func i) cc,args:=B++c.args.map Z.eval }) w,#[]):=by
       unfold execOp;rw[m];have h1:=aj.yP (Bo (P:=P) (ty:=o.type) z J w) (λd=>(Pure.pure (Next.defer d):Sem Next)) #[];have N:=aj.pure (P:=P) (w:=w) (Next.defer { target:= .fn (.func i) cc,args:=B++c.args.map Z.eval }) #[];simp only;rw[h1,N];simp
      have M:=je H.kind;refine⟨({ Z with defers:={ target:= .fn (.func i) cc,args:=B++c.args.map Z.eval }::Z.defers }:Frame).finish undef,⟨#[],?_,by simp⟩,?_⟩
      .rw[nE H A Q (.inl hrd)]
       unfold stepG.apply;simp only[if_true,n,M];simp[GStep.after,G,seen]
      .have H':ql Y x X (⟨.fn i first cap,evs X c.args.toList⟩::W) ops j ((List.range ops.size).drop (j+1)) V { Z with defers:={ target:= .fn (.func i) cc,args:=B++c.args.map Z.eval }::Z.defers }:=
        ⟨H.fn,H.tm,H.todo,⟨_,Z.defers,rfl,⟨B.toList,(c.args.map Z.eval).toList,cc,hf,q,L,by simp⟩,H.ds⟩,H.mode,H.kind,H.round⟩
       exact(H'.finish A (Ext.refl Y) kS).rf O l
     .cases D
    .cases D
   .cases e
  .rename_i c m
   split at e
   .rename_i I z
    split at e
    .rename_i i first cap t
     cases e;have R:Z.roundOf=none∨∀c,o.op≠.defer c:= .inr λc' h=>by rw[m]at h;cases h
     have S:=H.Pg I;rw[t]at S;obtain⟨B,cc,J,hf,L⟩:=wB S;have q:dJ Y (evs X c.args.toList) (c.args.map Z.eval).toList:=by simpa using uh H.Pg c.args.toList
     refine⟨B,c.args.map Z.eval,cc,?_,Z.finish undef,(H.finish A (Ext.refl Y) kS).rf O l,λw=>?_⟩
     .simp only[dz]
      exact(hf.append q).append L
     .have n:(execOp Z.eval o).runT P w #[]=(.ok (.spawn { target:= .fn (.func i) cc,args:=B++c.args.map Z.eval }) w,#[]):=by
       unfold execOp;rw[m];have h1:=aj.yP (Bo (P:=P) (ty:=o.type) z J w) (λd=>(Pure.pure (Next.spawn d):Sem Next)) #[];have N:=aj.pure (P:=P) (w:=w) (Next.spawn { target:= .fn (.func i) cc,args:=B++c.args.map Z.eval }) #[];simp only;rw[h1,N];simp
      have M:=je H.kind;rw[nE H A Q R];unfold stepG.apply;simp only[if_true,n,M];simp[GStep.after,G,seen,Conc.born]
    .cases e
   .cases e
  .cases e
theorem YB{nt:Nat}{tmps:Array Value}(d:RT Y nt X tmps):∀{b:List ResultVar} {l:List AV},resT X b=some l->∃vs,dJ Y l vs∧∀w,
 aj P (b.mapM λr=>match r with | .tmp t=>(Pure.pure (tmps.getD t undef):Sem Value)| .cell a t=>do loadVar t (← asAddr (tmps.getD a undef))) w vs w []:=by
 intro b;induction b with
 |nil=>intro l e;cases e;exact⟨[],bS,λw=>aj.pure _⟩
 |cons r b f=>
  intro l e;cases r with
  |tmp t=>
   simp only[resT]at e;split at e
   .rename_i h c
    cases e;obtain⟨vs,h1,g⟩:=f c;refine⟨_::vs,bQ (d.ev { (default:Frame)with tmps:=tmps } rfl (.tmp t)) h1,λw=>?_⟩;rw[List.mapM_cons];refine aj.aG (aj.pure _) ?_;exact aj.aG (g w) (aj.pure _)
   .cases e
  |cell a t=>cases e
theorem KA{nt:Nat}{tmps:Array Value}(j:RT Y nt X tmps){fn:Func}{d:List ResultVar}(c:fn.results.toList=d){l:List AV}(e:resT X d=some l):
 ∃v,RV Y (VB l) v∧∀w,aj P (results fn tmps) w v w []:=by
 obtain⟨vs,f,h1⟩:=YB (P:=P) j e;refine⟨if h:vs.toArray.size=1 then vs.toArray[0]else .tuple vs.toArray,?_,λw=>?_⟩
 .cases l with
  |nil=>
   rw[bJ f];show RV Y (.bV []) (.tuple #[]);unfold RV;exact⟨#[],rfl,bS⟩
  |cons a l=>
   obtain⟨v,r,rfl,g,i⟩:=aX f;cases l with
   |nil=>rw[bJ i];exact g
   |cons b l=>
    obtain⟨k,m,rfl,n,o⟩:=aX i;have:¬(v::k::m).toArray.size=1:=by simp
    rw[dif_neg this];show RV Y (.bV (a::b::l)) _;unfold RV;exact⟨_,rfl,bQ g (bQ n o)⟩
 .unfold results
  have p:aj P (fn.results.mapM λ
   | .tmp t=>(Pure.pure (tmps.getD t undef):Sem Value)
   | .cell a t=>do loadVar t (← asAddr (tmps.getD a undef))) w vs.toArray w []:=by
   rw[Array.mapM_eq_mapM_toList,c];exact aj.aG (h1 w) (aj.pure _)
  exact aj.aG p (aj.pure _)
theorem qB (F : Fits P E) (FF : dM P E) {f : AF} (R : RF Y f Z) {r : T1} (e : stepT E f = some r) : X4 P main E Y Z cs r := by
 obtain ⟨x, X, td, W, ret⟩ := f
 cases ret with
 | true =>
   have hm : Z.mode = .returning := by simpa using R.mode
   cases W with
   | nil =>
     have hds : Z.defers = [] := R.ds
     simp only [stepT] at e
     split at e
     · rename_i c n rs ex hg
       obtain ⟨fn, k1, k2, _, k4, _⟩ := FF.code x.fn c n rs ex hg
       have key : ∀ {l : List AV}, resT X rs = some l → X4 P main E Y Z cs (.ret (VB l)) := fun hl => by
        obtain ⟨u, h1, h2⟩ := KA (P := P) R.tm k4 hl
        refine ⟨u, h1, fun w => ?_⟩
        rw [zM R]
        unfold unwind
        rw [hds]
        have := h2 w #[]
        have hfn : P.funcs[Z.fn]? = some fn := by rw [R.fn]; exact k1
        simp only [hm, hfn, this]
        simp [seen]
       cases hl : resT X rs with
       | none => rw [hl] at e; cases e
       | some l =>
         rw [hl] at e
         have := key hl
         match l, e, this with
         | [], e, this => cases e; exact this
         | [v], e, this => cases e; exact this
         | a :: b :: l, e, this => cases e; exact this
     · cases e
   | cons d ds' =>
     obtain ⟨d', dr, hd, h1, h2⟩ := R.ds
     simp only [stepT] at e
     split at e
     · rename_i g first cap hf
       cases e
       unfold RD at h1
       rw [hf] at h1
       obtain ⟨fs, as, c, ha1, ha2, ha3, rfl⟩ := h1
       have R' : RF Y ⟨x, X, td, ds', true⟩ { Z with defers := dr } := ⟨R.fn, R.tm, R.todo, h2, R.mode, R.kind, R.round⟩
       have hu : ∀ w, stepG P main (G Z cs) w = callDeferred P { Z with defers := dr } cs none { target := .fn (.func g) c, args := (fs ++ as).toArray } w := fun w => by
        rw [zM R]
        unfold unwind
        rw [hd]
       refine ⟨(fs ++ as).toArray ++ c, { Z with defers := dr }, ?_, R', hm, rfl, fun w => ⟨fun c0 n rs ex hgt => ?_, fun u w' es hs => ?_⟩⟩
       · simp only [Array.toList_append]
         exact (ha1.append ha2).append ha3
       · obtain ⟨fn, k1, k2, _, _, k5⟩ := FF.code g c0 n rs ex hgt
         have hr := qO (w := w) (vs := (fs ++ as).toArray ++ c) k1 (by rw [k2]; rfl) k5
         rcases pV (cs := cs) (fr := { Z with defers := dr }) (d := { target := .fn (.func g) c, args := (fs ++ as).toArray }) rfl rfl hr with hcd | hcd
         · rw [hu w, hcd]; simp [GStep.after, seen]
         · exact absurd rfl (hcd.2.2 _ _)
       · rcases pV (cs := cs) (fr := { Z with defers := dr }) (d := { target := .fn (.func g) c, args := (fs ++ as).toArray }) rfl rfl hs with hcd | hcd
         · rw [hu w, hcd]; simp [GStep.after]
         · exact absurd ⟨_, rfl⟩ hcd.1
     · cases e
 | false =>
   have hm : Z.mode = .run := by simpa using R.mode
   have mk : ∀ {l : List Item} {td' : List AI}, (∀ w, stepG.exec P main true Z cs none w = .go (G { Z with todo := l } cs) w) → Fx Y td' l → r = .go ⟨x, X, td', W, false⟩ → X4 P main E Y Z cs r := fun hs hl he => by
    subst he
    exact fun w => ⟨_, Gv hm hs w, R.to hl⟩
   cases td with
   | nil =>
     have ht : Z.todo = [] := R.todo
     simp only [stepT] at e
     split at e
     · rename_i hx
       cases e
       have hr : Z.roundOf = none := by have := R.round; simp only [hx] at this; exact this
       intro w
       refine ⟨{ Z with mode := .returning }, ⟨#[], ?_, by simp⟩, ⟨R.fn, R.tm, R.todo, R.ds, rfl, R.kind, R.round⟩⟩
       rw [RF.runs R]; unfold stepG.exec; simp only [ht, hr]; rfl
     · cases e
   | cons i k =>
     cases i with
     | code c =>
       simp only [stepT] at e
       cases hp : Ee x c with
       | false => rw [hp] at e; cases e
       | true =>
         rw [hp] at e
         simp only [cond_true] at e
         have : ∃ f', r = .go f' := by
          cases hA : HY E c k x X W CX with
          | none => rw [hA] at e; cases e
          | some a =>
            rw [hA] at e
            cases a <;> first | (cases e; exact ⟨_, rfl⟩) | cases e
         obtain ⟨f', rfl⟩ := this
         exact fun w => VJ F FF R hp e w
     | inBlock id =>
       obtain ⟨i, k', ht, rfl, hk⟩ := R.todo
       cases e; exact mk (l := k') (fun w => by unfold stepG.exec; simp only [ht]; rfl) hk rfl
     | inScope id =>
       obtain ⟨i, k', ht, rfl, hk⟩ := R.todo
       cases e; exact mk (l := k') (fun w => by unfold stepG.exec; simp only [ht]; rfl) hk rfl
     | inLoop body =>
       obtain ⟨i, k', ht, rfl, hk⟩ := R.todo
       cases e
       exact mk (td' := .code body :: .inLoop body :: k) (l := .code body :: .inLoop body :: k') (fun w => by unfold stepG.exec; simp only [ht]; rfl) (.cons rfl (.cons rfl hk)) rfl
     | inRegion ops l =>
       obtain ⟨i, k', ht, ⟨j, hj, rfl⟩, hk⟩ := R.todo
       cases l with
       | nil =>
         cases e
         have hn : (List.range ops.size).drop j = [] := by
          apply List.drop_eq_nil_of_le
          have : ops.toList.length ≤ j := by
           rcases Nat.lt_or_ge j ops.toList.length with h | h
           · rw [List.drop_eq_getElem_cons h] at hj; cases hj
           · exact h
          simpa using this
         rw [hn] at ht
         exact mk (l := k') (fun w => by unfold stepG.exec; simp only [ht]; rfl) hk rfl
       | cons o rest =>
         obtain ⟨ho, hrest, hr⟩ := drop_cons hj
         rw [hr] at ht
         have H : ql Y x X W ops j ((List.range ops.size).drop (j + 1)) k' Z := ⟨R.fn, R.tm, ht, R.ds, hm, R.kind, R.round⟩
         have e : KH E x X W k ops o rest = some r := e
         unfold KH at e
         split at e
         · rename_i hw
           exact abn F FF H ho hrest hk (jQ R.tm hw) e
         · rename_i hw
           cases e
           intro w
           refine ⟨_, ⟨#[], wN H (fun o' ho' => ?_), by simp⟩, (H.finish ho (Ext.refl Y) kS).rf hk hrest⟩
           rw [ho] at ho'; cases ho'
           exact jQ R.tm hw
         · cases e
     | inRangeFunc id => cases e
     | endRangeFunc id => cases e
     | beginRound => cases e
     | rT ops n => cases e
end
end
section
open Go.Conc (G)
variable{α:Type}{s:Sem α}{vs:Array Value}
structure qR(P:Program)(g:FuncId)(e:Array Value->Sem Value):Prop where
 ex : ∃ fn, P.funcs[g]? = some fn ∧ (fn.name == "runtime.NumGoroutine") = false ∧ fn.body.isNone = true ∧ Extern.findNext fn = none ∧ Extern.find fn = some e
def NS(g:FuncId):Event:=⟨.mark (.extern g),false,true⟩
def tO(a:Addr):Event:=⟨.cell a,false,true⟩
def Bg(a:Addr):Event:=⟨.cell a,true,true⟩
def qV(m:Mark):Event:=⟨.mark m,false,true⟩
section
variable{P:Program}{w:World}{g:FuncId}
theorem nL{e:Array Value->Sem Value}(h:qR P g e){vs:Array Value}{v:Value}{w':World}{es:List Event}(a:aj P (e vs) w v w' es):aj P (callFunc g vs) w (.value v) w' (NS g::es):=by
 obtain⟨fn,h1,b,c,d,i⟩:=h.ex;unfold callFunc;refine aj.aG aj.program ?_;simp only[h1,b,c,d,i];refine aj.bind (e1:=[NS g]) (e2:=es) (aj.mark _) ?_;have:=aj.bind a (aj.pure (P:=P) (w:=w') (Next.value v)) (f:=λv=>Pure.pure (Next.value v));simpa using this
theorem WJ{e:Array Value->Sem Value}(h:qR P g e){b:Halt}{w':World}(a:∀c,∃es,(e vs).runT P w c=(.halt b w',es)):∃es,(callFunc g vs).runT P w #[]=(.halt b w',es):=by
 obtain⟨fn,h1,d,f,i,j⟩:=h.ex;unfold callFunc;rw[aj.yP aj.program];simp only[h1,d,f,i,j];have k:=aj.mark (P:=P) (w:=w) (.extern g) #[];rw[au (by simp),aH trivial];rw[runT_bind,k];simp only;obtain⟨es,a⟩:=a (#[]++[(⟨.mark (.extern g),false,true⟩:Event)].toArray);show ∃es,((e vs)>>=λv=>Pure.pure (Next.value v)).runT P w _=_;rw[runT_bind,a];exact⟨es,rfl⟩
theorem uo(fn:FuncId){es:List Event}(h:∀x∈es,x.sync=true∧∀g,x.loc≠.mark (.extern g)):seen P fn (NS g::es).toArray=es.toArray:=by
 have:=Conc.seen_entry (P:=P) fn g es.toArray (λx a=>h x (by simpa using a));have e:(NS g::es).toArray=#[⟨.mark (.extern g),false,true⟩]++es.toArray:=by simp[NS]
 rw[e];exact this
theorem aj.aak{a:Addr}{v:Value}(h:w.cell? a=some v):aj P (Go.load a .atomic) w v w [tO a]:=λb=>by
 unfold Go.load;simp only[Sem.runT,h];simp[Sem.runT,tO]
theorem aj.fU{a:Addr}{v v0:Value}(h:w.cell? a=some v0)(b:w.frozen? a=false)(c:∀cs,v≠.agg cs)(d:∀cs,v≠.tuple cs):aj P (Go.store a v .atomic) w () (w.setCell a v) [Bg a]:=λe=>by
 unfold Go.store;cases v<;>first
  |exact aP rfl (c _)
  |exact aP rfl (d _)
  |(simp only[Sem.runT,h,b];simp[Sem.runT,Bg])
theorem wP(m:Mark)(vs:Array Value):aj P ((λ_=>do mark m;Pure.pure Extern.Race.none_:Array Value->Sem Value) vs) w (.tuple #[]) w [qV m]:=by
 show aj P (mark m>>=λ_=>Pure.pure Extern.Race.none_) w _ w _;exact aj.bind (e1:=[qV m]) (e2:=[]) (aj.mark m) (aj.pure _)
theorem Bn(m:Addr->Mark)(a:Addr)(h:vs[0]? =some (.pointer (some a))):aj P (Extern.Race.marked m vs) w (.tuple #[]) w [qV (m a)]:=by
 unfold Extern.Race.marked Extern.Race.at_;simp only[h];refine aj.aG (aj.pure a) ?_;exact aj.bind (e1:=[qV (m a)]) (e2:=[]) (aj.mark _) (aj.pure _)
theorem TA{k:IntKind}{a:Addr}{n:Int}(h:w.cell? a=some (.int k n)):aj P (Extern.Atomic.read (.int k) a) w (.int k n) w [tO a]:=by
 unfold Extern.Atomic.read;refine aj.bind (e1:=[tO a]) (e2:=[]) (aj.aak h) ?_;simp only[if_true];exact aj.pure _
theorem zS{k:IntKind}{a:Addr}{n:Int}(h:w.cell? a=some (.int k n)):aj P (Extern.Atomic.loadT (.int k) #[.pointer (some a)]) w (.int k n) w [tO a]:=by
 unfold Extern.Atomic.loadT;refine aj.aG (a:=a) ?_ (TA h);unfold asAddr;exact aj.pure _
theorem aj.of{a:α}{w':World}{l:List Event}(h1:s.run P w= .ok a w')(b:∀es,s.events P w es=es++l.toArray):aj P s w a w' l:=λc=>by
 rw[Sem.runT_eq,h1,b]
theorem Yw{k:IntKind}{a:Addr}{n d:Int}(h:w.cell? a=some (.int k n))(b:w.frozen? a=false):aj P (Extern.Atomic.update (Op.intArith .add) k true #[.pointer (some a),.int k d]) w (.int k (k.wrap (n+d))) (w.setCell a (.int k (k.wrap (n+d)))) [tO a,Bg a]:=
 .of (Conc.run_add_entry h b) (λes=>by rw[Conc.events_add_entry h b];apply bU.1;simp[tO,Bg])
theorem EO{k:IntKind}{a:Addr}{n m:Int}(h:w.cell? a=some (.int k n))(b:w.frozen? a=false):
 aj P (Extern.Atomic.casT (.int k) #[.pointer (some a),.int k n,.int k m]) w (.bool true) (w.setCell a (.int k m)) [tO a,Bg a]:=by
 rw[Conc.casT_eq];exact .of (Conc.run_cas_hit_entry h b) (λes=>by rw[Conc.events_cas_hit_entry h b];apply bU.1;simp[tO,Bg])
theorem Ci{k:IntKind}{a:Addr}{n o m:Int}(h:w.cell? a=some (.int k n))(c:w.frozen? a=false)(b:n≠o):
 aj P (Extern.Atomic.casT (.int k) #[.pointer (some a),.int k o,.int k m]) w (.bool false) w [tO a]:=by
 rw[Conc.casT_eq];exact .of (Conc.run_cas_miss_entry h c b) (λes=>by rw[Conc.events_cas_miss_entry h c b];apply bU.1;simp[tO])
theorem Jp{a:Addr}{n:Int}{vs:Array Value}(b:vs[0]? =some (.pointer (some a)))(h:w.cell? a=some (.int .u32 n)):aj P (Extern.Sync.count vs) w (a,n) w [tO a]:=by
 unfold Extern.Sync.count;simp only[b];exact aj.bind (e1:=[tO a]) (e2:=[]) (aj.aak h) (aj.pure _)
theorem GH{a:Addr}{n:Int}(b:vs[0]? =some (.pointer (some a)))(h:w.cell? a=some (.int .u32 n))(c:w.frozen? a=false)(d:n≠0):
 aj P (Extern.Sync.semacquire vs) w (.tuple #[]) (w.setCell a (.int .u32 (n - 1))) [qV .disable,tO a,Bg a,qV .enable]:=by
 unfold Extern.Sync.semacquire;refine aj.bind (e1:=[qV .disable]) (e2:=[tO a,Bg a,qV .enable]) (aj.mark _) ?_;refine aj.bind (e1:=[tO a]) (e2:=[Bg a,qV .enable]) (Jp b h) ?_;simp only[d,if_false];refine aj.bind (e1:=[Bg a]) (e2:=[qV .enable]) (aj.fU h c (by simp) (by simp)) ?_;exact aj.bind (e1:=[qV .enable]) (e2:=[]) (aj.mark _) (aj.pure _)
theorem Ku{a:Addr}{vs:Array Value}(c:vs[0]? =some (.pointer (some a)))(h:w.cell? a=some (.int .u32 0)):∀b,∃es,(Extern.Sync.semacquire vs).runT P w b=(.halt .blocked w,es):=by
 intro b;unfold Extern.Sync.semacquire;have d:=aj.mark (P:=P) (w:=w) .disable b;rw[runT_bind,d];simp only;have e:=Jp (P:=P) c h (b++[(⟨.mark .disable,false,true⟩:Event)].toArray);rw[runT_bind,e];simp only[if_true];exact⟨_,rfl⟩
end
end
section
open Go.Conc (G)
open Go.ConcX (WgAt wgBlock stA smA KK)
variable{a:AV}{es:Array Event}{u:Value}{vs:Array Value}
structure S9(P:Program)(E:Env):Prop where
 uJ:∀g n rs,E.ft.get g=some ⟨none,n,rs,.uJ⟩->∃e,qR P g e∧∀v,e #[v]=Pure.pure v
 xU:∀g n rs,E.ft.get g=some ⟨none,n,rs,.xU⟩->∃e,qR P g e∧∀vs,e vs=Pure.pure (.bool false)
 race:∀g n rs,E.ft.get g=some ⟨none,n,rs,.race⟩->∃m:Addr->Mark,qR P g (Extern.Race.marked m)∧(m= .acquire∨m= .release∨m= .releaseMerge∨m= .read∨m= .write)
 Un:∀g n rs,E.ft.get g=some ⟨none,n,rs,.Un⟩->qR P g (λ_=>do mark .disable;Pure.pure Extern.Race.none_)
 en:∀g n rs,E.ft.get g=some ⟨none,n,rs,.en⟩->qR P g (λ_=>do mark .enable;Pure.pure Extern.Race.none_)
 Fg:∀g n rs k,E.ft.get g=some ⟨none,n,rs,.Fg k⟩->qR P g (Extern.Atomic.update (Op.intArith .add) k true)
 Fb:∀g n rs k,E.ft.get g=some ⟨none,n,rs,.Fb k⟩->qR P g (Extern.Atomic.casT (.int k))
 BL:∀g n rs k,E.ft.get g=some ⟨none,n,rs,.BL k⟩->qR P g (Extern.Atomic.loadT (.int k))
 BH:∀g n rs,E.ft.get g=some ⟨none,n,rs,.BH⟩->qR P g Extern.BytealgCompare.compare
 wY:∀g n rs,E.ft.get g=some ⟨none,n,rs,.wY⟩->qR P g Extern.MapsClone.clone
structure nN where
 wait:FuncId
 load:FuncId
 cas:FuncId
 D8:FuncId
 acq:FuncId
 wrt:FuncId
structure aaQ(P:Program)(I:nN):Prop where
 load:qR P I.load (Extern.Atomic.loadT (.int .u64))
 cas:qR P I.cas (Extern.Atomic.casT (.int .u64))
 D8:qR P I.D8 Extern.Sync.semacquire
 acq:qR P I.acq (Extern.Race.marked .acquire)
 wrt:qR P I.wrt (Extern.Race.marked .write)
inductive SK where
 |call (f:AF) (d:Option Tmp)
 |dcall (f:AF)
noncomputable def resume(f:AF)(d:Option Tmp)(v:AV):AF:=⟨f.x,fin f.x d v f.tm,f.todo,f.ds,false⟩
inductive TR where
 |go (f:AF) (k:List SK) (d:Nat)
 |ext (f:AF) (dst:Option Tmp) (g:FuncId) (args:List AV) (k:List SK)
 |ret (v:AV)
 |no
noncomputable def zh(k:List SK)(d:Nat):Option AF->TR
 |some f=> .go f k d
 |none=> .no
def Nu:List AV->Bool
 |[.ptr 0 1]=>true
 |_=>false
noncomputable def Zr(I:nN)(f:AF)(dst:Option Tmp)(g:FuncId)(args:List AV)(k:List SK)(d:Nat)(e:EX):TR:=
 match e,args with
 | .Un,[]=> .go (resume f dst (.bV [])) k (d+1)
 | .en,[]=>cond (Nat.beq d 0) .no (.go (resume f dst (.bV [])) k (d - 1))
 | .xU,_=> .go (resume f dst (.bool false)) k d
 |_,_=>cond (Nat.beq g I.wrt&&Nu args) (.go (resume f dst (.bV [])) k d) (.ext f dst g args k)
noncomputable def BZ(E:Env)(I:nN)(f:AF)(k:List SK)(d:Nat):TR:=
 match stepT E f with
 |some (.go f')=> .go f' k d
 |some (.call f' dst g args)=>(match E.ft.get g with
  |some ⟨some _,_,_,_⟩=>zh (.call f' dst::k) d (iW E g args false)
  |some ⟨none,_,_,e⟩=>Zr I f' dst g args k d e
  |none=> .no)
 |some (.dcall f' g args)=>(match E.ft.get g with
  |some ⟨some _,_,_,_⟩=>zh (.dcall f'::k) d (iW E g args true)
  |some ⟨none,_,_,.en⟩=>cond (Nat.beq d 0|| !args.isEmpty) .no (.go f' k (d - 1))
  |_=> .no)
 |some (.conv f' dst id off)=>cond (Nat.beq id 0&&Nat.blt off 2) (.go (resume f' dst (.ptr id off)) k d) .no
 |some (.ret v)=>(match k with
  | .call f' dst::a=>cond f.x.deferred .no (.go (resume f' dst v) a d)
  | .dcall f'::a=>cond f.x.deferred (.go f' a d) .no
  |[]=>cond f.x.deferred .no (.ret v))
 |_=> .no
def MEv(Wg:Nat)(e:Event):Prop:=e.loc= .mark .noRoom∨e=qV .disable∨e=qV .enable∨e=qV (.write (smA Wg))
def WgLive(ty:TypeId)(Wg:Nat)(w:World):Prop:=∃st a,WgAt ty Wg w st a
def MW(P:Program)(ty:TypeId)(Wg:Nat)(Stop:Nat->Goroutine->Prop):Nat->Nat->Goroutine->Prop
 |0,d,g=>Stop d g
 |n+1,d,g=>Stop d g∨(g.status= .running∧∀w,WgLive ty Wg w->∃g' es,stepG P true g w= .go g' w es∧(∀e∈es,MEv Wg e)∧MW P ty Wg Stop n (deafBehind d es) g')
def RS(ι:Nm):List SK->List Frame->Prop
 |[],a=>a=[]
 | .call f d::k,a=>∃fr r,a=fr::r∧BP ι f d fr∧RS ι k r
 | .dcall f::k,a=>∃fr r,a=fr::r∧(RF ι f fr∧fr.mode= .returning)∧RS ι k r
def SN(ι:Nm)(c:Frame)(cs:List Frame)(f:AF)(k:List SK)(g:Goroutine):Prop:=∃fr a,g=G fr (a++c::cs)∧RF ι f fr∧RS ι k a
section
variable{P:Program}{E:Env}{I:nN}{V:TypeId}{X W:Nat}{Y:Nm}{c:Frame}{Z:List Frame}{f:AF}{k:List SK}{d:Nat}{g:Goroutine}{w:World}
theorem zm(h:∀e∈es,e.loc= .mark .noRoom)(d:Nat):deafBehind d es=d:=om (λe a=>by rw[h e a];exact⟨by simp,by simp⟩) d
theorem Bt(h:∀e∈es,e.loc= .mark .noRoom):∀e∈es,MEv X e:=λe a=> .inl (h e a)
theorem rZ{fr:Frame}{a:List Frame}{g:FuncId}{back:Value->Frame}(h:Dx P true fr a w g vs back){e:Event}(hr:aj P (callFunc g vs) w (.value u) w [NS g,e])(b:e.sync=true∧∀g,e.loc≠.mark (.extern g)):
 stepG P true (G fr a) w= .go (G (back u) a) w #[e]:=by
 have:=h u w _ hr;rw[uo _ (by simpa using b)]at this;exact this
theorem Tp{fr:Frame}{a:List Frame}{g:FuncId}{back:Value->Frame}(h:Dx P true fr a w g vs back)(hr:aj P (callFunc g vs) w (.value u) w [NS g]):
 stepG P true (G fr a) w= .go (G (back u) a) w #[]:=by
 have:=h u w _ hr;rw[uo _ (by simp)]at this;exact this
theorem Ap{off:Nat}(a:Y 0=some (X,W)){v:Value}(h:RV Y (.ptr 0 off) v):v= .pointer (some ⟨X,off,none⟩):=by
 obtain⟨p,hp,rfl⟩:=iV h;rw[a]at hp;cases hp;rfl
theorem args1(h:dJ Y [a] vs.toList):∃v,vs=#[v]∧RV Y a v:=by
 obtain⟨v,r,h1,b,e⟩:=aX h;rw[bJ e]at h1;exact⟨v,by apply bU.1;rw[h1],b⟩
theorem xC(h:dJ Y [] vs.toList):vs=#[]:=by
 have:=bJ h;apply bU.1;rw[this]
theorem Vg(F:Fits P E)(FF:dM P E)(FX:S9 P E)(FW:aaQ P I)(s:Y 0=some (X,W))(H:SN Y c Z f k g){f':AF}{U:List SK}{d':Nat}(e:BZ E I f k d= .go f' U d')(hw:WgLive V X w):
 ∃g' es,stepG P true g w= .go g' w es∧(∀e∈es,MEv X e)∧deafBehind d es=d'∧SN Y c Z f' U g':=by
 obtain⟨fr,a,rfl,R,h⟩:=H;unfold BZ at e;split at e
 .rename_i D q
  cases e;have:=qB (main:=true) (cs:=a++c::Z) F FF R q;obtain⟨i,⟨es,h1,m⟩,t⟩:=this w;exact⟨_,es,h1,Bt m,zm m d,i,a,rfl,t,h⟩
 .rename_i D dst B args q
  obtain⟨h1,J,vs,m,t⟩:=qB (main:=true) (cs:=a++c::Z) F FF R q;obtain⟨K,C,h6⟩:=t w;split at e
  .rename_i cd n y ex r
   unfold zh at e;split at e
   .rename_i fn z
    cases e;refine⟨_,#[],K _ _ _ _ r,by simp,rfl,_,fr::a,rfl,kL FF z m rfl,fr,a,rfl,h1,h⟩
   .cases e
  .rename_i n y ex r
   unfold Zr at e;split at e
   .cases e
    refine⟨_,#[qV .disable],rZ C (nL (FX.Un B n y r) (wP .disable vs)) ⟨rfl,by simp[qV]⟩,?_,by simp[deafBehind,qV],_,a,rfl,h1 _ _ (by unfold RV;exact⟨#[],rfl,bS⟩),h⟩;intro e j;simp at j;subst j;exact .inr (.inl rfl)
   .cases b:Nat.beq d 0 with
    |true=>rw[b]at e;cases e
    |false=>
     rw[b]at e;cases e;refine⟨_,#[qV .enable],rZ C (nL (FX.en B n y r) (wP .enable vs)) ⟨rfl,by simp[qV]⟩,?_,by simp[deafBehind,qV],_,a,rfl,h1 _ _ (by unfold RV;exact⟨#[],rfl,bS⟩),h⟩;intro e j;simp at j;subst j;exact .inr (.inr (.inl rfl))
   .cases e
    obtain⟨ef,L,M⟩:=FX.xU B n y r;refine⟨_,#[],Tp C (nL (es:=[]) L (by rw[M];exact aj.pure _)),by simp,rfl,_,a,rfl,h1 _ _ (by unfold RV;rfl),h⟩
   .cases b:(Nat.beq B I.wrt&&Nu args)with
    |false=>simp only[b]at e;cases e
    |true=>
     simp only[b]at e;cases e;rw[av]at b;have N:=ak b.1;have ha:args=[.ptr 0 1]:=by
      have:=b.2;unfold Nu at this;split at this
      .rfl
      .cases this
     subst ha;obtain⟨v,rfl,O⟩:=args1 m;have O:=Ap s O;subst O;subst N;refine⟨_,#[qV (.write (smA X))],rZ C (nL FW.wrt (Bn .write ⟨X,1,none⟩ rfl)) ⟨rfl,by simp[qV]⟩,?_,by simp[deafBehind,qV],_,a,rfl,h1 _ _ (by unfold RV;exact⟨#[],rfl,bS⟩),h⟩;intro e j;simp at j;subst j;exact .inr (.inr (.inr rfl))
  .cases e
 .rename_i D B args q
  obtain⟨vs,i,m,h1,J,_,t⟩:=qB (main:=true) (cs:=a++c::Z) F FF R q;obtain⟨K,C⟩:=t w;split at e
  .rename_i cd n y ex r
   unfold zh at e;split at e
   .rename_i fn z
    cases e;refine⟨_,#[],K _ _ _ _ r,by simp,rfl,_,i::a,rfl,kL FF z m rfl,i,a,rfl,⟨h1,J⟩,h⟩
   .cases e
  .rename_i n y r
   cases b:(Nat.beq d 0|| !args.isEmpty)with
   |true=>rw[b]at e;cases e
   |false=>
    rw[b]at e;cases e;have:=C _ _ _ (nL (FX.en B n y r) (wP .enable vs));rw[uo _ (by intro x hx;simp at hx;subst hx;exact⟨rfl,by simp[qV]⟩)]at this;refine⟨_,#[qV .enable],this,?_,by simp[deafBehind,qV],i,a,rfl,h1,h⟩;intro e j;simp at j;subst j;exact .inr (.inr (.inl rfl))
  .cases e
 .rename_i D dst id off q
  obtain⟨h1,p,hp,t⟩:=qB (main:=true) (cs:=a++c::Z) F FF R q;cases b:(Nat.beq id 0&&Nat.blt off 2)with
  |false=>rw[b]at e;cases e
  |true=>
   rw[b]at e;cases e;rw[av,cO]at b;have Q:=ak b.1;subst Q;rw[s]at hp;cases hp;obtain⟨st,sm,hb⟩:=hw;obtain⟨es,k1,k2⟩:=t w _ _ _ hb b.2;exact⟨_,es,k1,Bt k2,zm k2 d,_,a,rfl,h1 _ _ (uW s),h⟩
 .rename_i v q
  obtain⟨u,h1,m⟩:=qB (main:=true) (cs:=a++c::Z) F FF R q;split at e
  .rename_i D dst k1
   cases o:f.x.deferred with
   |true=>rw[o]at e;cases e
   |false=>
    rw[o]at e;cases e;obtain⟨l,r1,rfl,A,hs1⟩:=h;have S:fr.kind= .normal:=by rw[R.kind,o];rfl
    refine⟨G (l.finish u) (r1++c::Z),#[],?_,by simp,rfl,_,r1,rfl,A _ _ h1,hs1⟩;rw[m w];show GStep.after #[] (doReturn P true fr (l::(r1++c::Z)) none u w)=_;unfold doReturn;simp only[S];rfl
  .rename_i D k1
   cases o:f.x.deferred with
   |false=>rw[o]at e;cases e
   |true=>
    rw[o]at e;cases e;obtain⟨l,r1,rfl,⟨A,T⟩,hs1⟩:=h;have S:fr.kind= .deferred:=by rw[R.kind,o];rfl
    refine⟨G l (r1++c::Z),#[],?_,by simp,rfl,_,r1,rfl,A,hs1⟩;rw[m w];show GStep.after #[] (doReturn P true fr (l::(r1++c::Z)) none u w)=_;unfold doReturn;simp only[S,T];rfl
  .cases o:f.x.deferred with
   |true=>rw[o]at e;cases e
   |false=>rw[o]at e;cases e
 .cases e
end
end
section
open Go.Conc (G semEvents)
open Go.ConcX (WgAt wgBlock stA smA KK)
variable{g0:FuncId}
section
variable(P:Program)(ty:TypeId)(Wg:Nat)(Fin:Goroutine->Prop)
def AtAcq(g:Goroutine):Prop:=g.status= .running∧∀w,∃g',stepG P true g w= .go g' w #[qV (.acquire (stA Wg))]∧Fin g'
def Ya(n:Nat)(g:Goroutine):Prop:=MW P ty Wg (λd g=>d=0∧AtAcq P Wg Fin g) n 1 g
def Kj(g:Goroutine):Prop:=g.status= .running∧∀w a,WgAt ty Wg w 0 a->∃g',stepG P true g w= .go g' w #[tO (stA Wg)]∧∃n,Ya P ty Wg Fin n g'
def X9(n:Nat)(g:Goroutine):Prop:=MW P ty Wg (λd g=>d=1∧Kj P ty Wg Fin g) n 1 g
def Fy(g:Goroutine):Prop:=g.status= .running∧g.offers=none∧(∀w st,WgAt ty Wg w st 0->stepG P true g w= .go { g with status:= .blocked } w #[])∧
 (∀w,WgAt ty Wg w 0 1->∃g',stepG P true g w= .go g' (w.setCell (smA Wg) (.int .u32 0)) (semEvents (smA Wg))∧∃n,X9 P ty Wg Fin n g')
def Z5(n:Nat)(g:Goroutine):Prop:=MW P ty Wg (λd g=>d=1∧Fy P ty Wg Fin g) n 1 g
def II(g:Goroutine):Prop:=g.status= .running∧
 (∀w,WgAt ty Wg w KK 0->∃g',stepG P true g w= .go g' (w.setCell (stA Wg) (.int .u64 (KK+1))) #[tO (stA Wg),Bg (stA Wg)]∧∃n,Z5 P ty Wg Fin n g')∧
 (∀w,WgAt ty Wg w 0 0->∃g',stepG P true g w= .go g' w #[tO (stA Wg)]∧∃n,X9 P ty Wg Fin n g')
def Z6(n:Nat)(g:Goroutine):Prop:=MW P ty Wg (λd g=>d=1∧II P ty Wg Fin g) n 1 g
def QK(g:Goroutine):Prop:=g.status= .running∧
 (∀w,WgAt ty Wg w KK 0->∃g',stepG P true g w= .go g' w #[tO (stA Wg)]∧∃n,Z6 P ty Wg Fin n g')∧
 (∀w,WgAt ty Wg w 0 0->∃g',stepG P true g w= .go g' w #[tO (stA Wg)]∧∃n,Ya P ty Wg Fin n g')
def MLd(d n:Nat)(g:Goroutine):Prop:=MW P ty Wg (λd g=>d=1∧QK P ty Wg Fin g) n d g
end
abbrev TS:=AF×List SK×Nat
noncomputable def Bh(E:Env)(I:nN)(n:Nat):AF->List SK->Nat->TS:=
 @Nat.rec (λ_=>AF->List SK->Nat->TS) (λf k d=>(f,k,d)) (λ_ a f k d=>match BZ E I f k d with | .go f' b e=>a f' b e|_=>(f,k,d)) n
noncomputable def xG(E:Env)(I:nN)(s:TS)(d:Nat)(g:FuncId)(ok:List AV->Bool):Option (AF×Option Tmp×List SK):=
 match BZ E I s.1 s.2.1 s.2.2 with
 | .ext f dst g' args k=>cond (Nat.beq s.2.2 d&&(Nat.beq g' g&&ok args)) (some (f,dst,k)) none
 |_=>none
def Nv:List AV->Bool
 |[.ptr 0 0]=>true
 |_=>false
def aan:List AV->Bool
 |[.ptr 0 1,_]=>true
 |_=>false
def aao:List AV->Bool
 |[.ptr 0 0,.int .u64 a,.int .u64 b]=>a==KK&&b==KK+1
 |_=>false
noncomputable def on(E:Env)(I:nN)(d:Nat)(v:AV)(p:AF×Option Tmp×List SK):TS:=Bh E I 200 (resume p.1 p.2.1 v) p.2.2 d
noncomputable def WE(E:Env)(I:nN)(s:TS):Bool:=match BZ E I s.1 s.2.1 s.2.2 with | .ret (.bV [])=>Nat.beq s.2.2 0|_=>false
noncomputable def Sv(E:Env)(I:nN)(s:TS):Bool:=match xG E I s 0 I.acq Nv with |some p=>WE E I (on E I 0 (.bV []) p)|none=>false
noncomputable def RG(E:Env)(I:nN)(s:TS):Bool:=match xG E I s 1 I.load Nv with |some p=>Sv E I (on E I 1 (.int .u64 0) p)|none=>false
noncomputable def Vu(E:Env)(I:nN)(s:TS):Bool:=match xG E I s 1 I.D8 aan with |some p=>RG E I (on E I 1 (.bV []) p)|none=>false
noncomputable def Xh(E:Env)(I:nN)(s:TS):Bool:=match xG E I s 1 I.cas aao with |some p=>Vu E I (on E I 1 (.bool true) p)&&RG E I (on E I 1 (.bool false) p)|none=>false
noncomputable def abE(E:Env)(I:nN)(s:TS):Bool:=match xG E I s 1 I.load Nv with |some p=>Xh E I (on E I 1 (.int .u64 KK) p)&&Sv E I (on E I 1 (.int .u64 0) p)|none=>false
noncomputable def uz(E:Env)(I:nN):Bool:=match iW E I.wait [.ptr 0 0] false with |some f=>abE E I (Bh E I 200 f [] 0)|none=>false
section
variable{P:Program}{E:Env}{I:nN}{ty:TypeId}{Wg W:Nat}{Y:Nm}{c:Frame}{Z:List Frame}
structure vo(P:Program)(E:Env)(I:nN):Prop where
 F:Fits P E
 FF:dM P E
 FX:S9 P E
 FW:aaQ P I
theorem DN(X:vo P E I)(b:Y 0=some (Wg,W)){Stop:Nat->Goroutine->Prop}:∀(n:Nat) (f:AF) (k:List SK) (d:Nat) (g:Goroutine),SN Y c Z f k g->
 (∀g',SN Y c Z (Bh E I n f k d).1 (Bh E I n f k d).2.1 g'->Stop (Bh E I n f k d).2.2 g')->MW P ty Wg Stop n d g
 |0,f,k,d,g,H,a=>a g H
 |n+1,f,k,d,g,H,a=>by
  have e:Bh E I (n+1) f k d=(match BZ E I f k d with | .go f' h i=>Bh E I n f' h i|_=>(f,k,d)):=rfl;cases j:BZ E I f k d with
  |go f' h i=>
   rw[j]at e;simp only at e;rw[e]at a;refine .inr ⟨?_,λw l=>?_⟩
   .obtain⟨fr,m,rfl,_⟩:=H;rfl
   .obtain⟨g',es,h1,o,p,q⟩:=Vg X.F X.FF X.FX X.FW b H j l
    refine⟨g',es,h1,o,?_⟩;rw[p];exact DN X b n f' h i g' q a
  |_=>rw[j]at e;simp only at e;rw[e]at a;exact .inl (a g H)
theorem Ig(X:vo P E I){s:TS}{d:Nat}{ok:List AV->Bool}{p:AF×Option Tmp×List SK}(e:xG E I s d g0 ok=some p){g:Goroutine}(H:SN Y c Z s.1 s.2.1 g):
 s.2.2=d∧∃args,ok args=true∧∃fr h vs,g=G fr (h++c::Z)∧dJ Y args vs.toList∧(∀v u,RV Y v u->SN Y c Z (resume p.1 p.2.1 v) p.2.2 (G (fr.finish u) (h++c::Z)))∧
  ∀w,Dx P true fr (h++c::Z) w g0 vs (λu=>fr.finish u)∧(∀w2 es,(callFunc g0 vs).runT P w #[]=(.halt .blocked w2,es)->stepG P true (G fr (h++c::Z)) w= .go { G fr (h++c::Z)with status:= .blocked } w2 #[]):=by
 obtain⟨f,k,n⟩:=s;obtain⟨fr,h,rfl,R,z⟩:=H;unfold xG at e;simp only at e R z;split at e
 .rename_i B dst g' args k1 a
  cases l:(Nat.beq n d&&(Nat.beq g' g0&&ok args))with
  |false=>rw[l]at e;cases e
  |true=>
   rw[l]at e;cases e;simp only[av]at l;obtain⟨o,q,r⟩:=l;have o:=ak o;have q:=ak q;subst q;unfold BZ at a;split at a
   .cases a
   .rename_i t j y b m
    obtain⟨h1,C,vs,D,A⟩:=qB (main:=true) (cs:=h++c::Z) X.F X.FF R m;have key:t=B∧j=dst∧y=g'∧b=args∧k1=k:=by
     split at a
     .unfold zh at a;split at a<;>cases a
     .unfold Zr at a
      split at a
      .cases a
      .cases i:Nat.beq n 0<;>rw[i]at a<;>cases a
      .cases a
      .cases i:(Nat.beq y I.wrt&&Nu b)with
       |true=>simp only[i]at a;cases a
       |false=>simp only[i]at a;cases a;exact⟨rfl,rfl,rfl,rfl,rfl⟩
     .cases a
    obtain⟨rfl,rfl,rfl,rfl,rfl⟩:=key;exact⟨o,b,r,fr,h,vs,rfl,D,λv u J=>⟨_,h,rfl,h1 v u J,z⟩,λw=>⟨(A w).2.1,(A w).2.2⟩⟩
   .rename_i t y b m
    split at a
    .unfold zh at a;split at a<;>cases a
    .cases i:(Nat.beq n 0|| !b.isEmpty)<;>rw[i]at a<;>cases a
    .cases a
   .rename_i t j id off m
    cases i:(Nat.beq id 0&&Nat.blt off 2)<;>rw[i]at a<;>cases a
   .rename_i v m
    split at a
    .cases i:f.x.deferred<;>rw[i]at a<;>cases a
    .cases i:f.x.deferred<;>rw[i]at a<;>cases a
    .cases i:f.x.deferred<;>rw[i]at a<;>cases a
   .cases a
 .cases e
theorem GN(X:vo P E I)(a:Y 0=some (Wg,W)){Stop:Nat->Goroutine->Prop}{d:Nat}{v:AV}{p:AF×Option Tmp×List SK}{g:Goroutine}(H:SN Y c Z (resume p.1 p.2.1 v) p.2.2 g)
 (b:∀g',SN Y c Z (on E I d v p).1 (on E I d v p).2.1 g'->Stop (on E I d v p).2.2 g'):MW P ty Wg Stop 200 d g:=DN X a 200 _ _ d g H b
theorem Ew{args:List AV}(h:Nv args=true):args=[.ptr 0 0]:=by
 unfold Nv at h;split at h
 .rfl
 .cases h
def Dw(P:Program)(ty:TypeId)(Wg:Nat)(c:Frame)(Z:List Frame)(g:Goroutine):Prop:=∃n,MW P ty Wg (λd g=>d=0∧g=G (c.finish (.tuple #[])) Z) n 0 g
theorem ab7(X:vo P E I){s:TS}(h:WE E I s=true){g:Goroutine}(H:SN Y c Z s.1 s.2.1 g):s.2.2=0∧MW P ty Wg (λd g=>d=0∧g=G (c.finish (.tuple #[])) Z) 1 0 g:=by
 obtain⟨f,k,m⟩:=s;obtain⟨fr,i,rfl,R,n⟩:=H;unfold WE at h;simp only at h R n;split at h
 .rename_i a
  have q:=ak h;refine⟨q,.inr ⟨rfl,λw _=>?_⟩⟩;unfold BZ at a;split at a
  .cases a
  .rename_i o j p b l
   split at a
   .unfold zh at a;split at a<;>cases a
   .unfold Zr at a
    split at a
    .cases a
    .cases e:Nat.beq m 0<;>rw[e]at a<;>cases a
    .cases a
    .cases e:(Nat.beq p I.wrt&&Nu b)<;>simp only[e]at a<;>cases a
   .cases a
  .rename_i o p b l
   split at a
   .unfold zh at a;split at a<;>cases a
   .cases e:(Nat.beq m 0|| !b.isEmpty)<;>rw[e]at a<;>cases a
   .cases a
  .rename_i o j id off l
   cases e:(Nat.beq id 0&&Nat.blt off 2)<;>rw[e]at a<;>cases a
  .rename_i v l
   obtain⟨u,h1,r⟩:=qB (main:=true) (cs:=i++c::Z) X.F X.FF R l;split at a
   .cases e:f.x.deferred<;>rw[e]at a<;>cases a
   .cases e:f.x.deferred<;>rw[e]at a<;>cases a
   .cases e:f.x.deferred with
    |true=>rw[e]at a;cases a
    |false=>
     rw[e]at a;cases a;have t:i=[]:=n;subst t;have y:fr.kind= .normal:=by rw[R.kind,e];rfl
     have z:u= .tuple #[]:=by
      unfold RV at h1;obtain⟨vs,h1,A⟩:=h1;have:=bJ A;rw[h1];congr 1;apply bU.1;rw[this]
     subst z;refine⟨G (c.finish (.tuple #[])) Z,#[],?_,by simp,rfl,rfl⟩;rw[r w];show GStep.after #[] (doReturn P true fr (c::Z) none (.tuple #[]) w)=_;unfold doReturn;simp only[y];rfl
  .cases a
 .cases h
theorem Qj(X:vo P E I)(b:Y 0=some (Wg,W)){s:TS}(h:Sv E I s=true){g:Goroutine}(H:SN Y c Z s.1 s.2.1 g):s.2.2=0∧AtAcq P Wg (Dw P ty Wg c Z) g:=by
 unfold Sv at h;split at h
 .rename_i p hp
  obtain⟨h1,args,e,fr,r,vs,rfl,t,u,x⟩:=Ig X hp H;obtain rfl:=Ew e;obtain⟨v,rfl,y⟩:=args1 t;obtain rfl:=Ap b y;refine⟨h1,rfl,λw=>⟨_,rZ (x w).1 (nL X.FW.acq (Bn .acquire ⟨Wg,0,none⟩ rfl)) ⟨rfl,by simp[qV]⟩,?_⟩⟩;exact⟨200+1,by
   have:=GN (ty:=ty) X b (Stop:=λd g=>d=0∧MW P ty Wg (λd g=>d=0∧g=G (c.finish (.tuple #[])) Z) 1 0 g) (u (.bV []) (.tuple #[]) (by unfold RV;exact⟨#[],rfl,bS⟩)) (d:=0) (λg' i=>ab7 X h i);exact mw_then (λd g z=>by obtain⟨rfl,f⟩:=z;exact f) this⟩
 .cases h
where
 mw_then {Stop a:Nat->Goroutine->Prop} {m:Nat} (f:∀d g,a d g->MW P ty Wg Stop m d g):∀{n d:Nat} {g:Goroutine},MW P ty Wg a n d g->MW P ty Wg Stop (n+m) d g
 |0,d,g,h=>by rw[gF];exact f d g h
 |n+1,d,g,h=>by
  rcases h with h|⟨h1,e⟩
  .have:=f d g h
   exact mw_more (n+1) this
  .rw[Nat.add_right_comm]
   refine .inr ⟨h1,λw k=>?_⟩;obtain⟨g',es,l,o,q⟩:=e w k;exact⟨g',es,l,o,mw_then f q⟩
 mw_more {Stop:Nat->Goroutine->Prop}:∀(j:Nat) {m d:Nat} {g:Goroutine},MW P ty Wg Stop m d g->MW P ty Wg Stop (j+m) d g
 |0,m,d,g,h=>by rw[gF];exact h
 |j+1,m,d,g,h=>by
  have:=mw_more j h;rw[Nat.add_right_comm];exact mw_succ this
 mw_succ {Stop:Nat->Goroutine->Prop}:∀{m d:Nat} {g:Goroutine},MW P ty Wg Stop m d g->MW P ty Wg Stop (m+1) d g
 |0,d,g,h=> .inl h
 |m+1,d,g,h=>by
  rcases h with h|⟨h1,e⟩
  .exact .inl h
  .refine .inr ⟨h1,λw k=>?_⟩
   obtain⟨g',es,l,o,q⟩:=e w k;exact⟨g',es,l,o,mw_succ q⟩
theorem Wm(X:vo P E I)(a:Y 0=some (Wg,W)){s:TS}(h:RG E I s=true){g:Goroutine}(H:SN Y c Z s.1 s.2.1 g):s.2.2=1∧Kj P ty Wg (Dw P ty Wg c Z) g:=by
 unfold RG at h;split at h
 .rename_i p hp
  obtain⟨h1,args,d,fr,e,vs,rfl,f,i,j⟩:=Ig X hp H;obtain rfl:=Ew d;obtain⟨v,rfl,k⟩:=args1 f;obtain rfl:=Ap a k;refine⟨h1,rfl,λw m l=>⟨_,rZ (j w).1 (nL X.FW.load (zS l.cellSt)) ⟨rfl,by simp[tO]⟩,200,?_⟩⟩;exact GN X a (i (.int .u64 0) (.int .u64 0) (by unfold RV;rfl)) λg' b=>Qj X a h b
 .cases h
theorem aa1(X:vo P E I)(b:Y 0=some (Wg,W)){s:TS}(h:Vu E I s=true){g:Goroutine}(H:SN Y c Z s.1 s.2.1 g):s.2.2=1∧Fy P ty Wg (Dw P ty Wg c Z) g:=by
 unfold Vu at h;split at h
 .rename_i p hp
  obtain⟨h1,args,f,fr,i,vs,rfl,o,q,m⟩:=Ig X hp H;have t:∃a,args=[.ptr 0 1,a]:=by
   unfold aan at f;split at f
   .exact⟨_,rfl⟩
   .cases f
  obtain⟨a,rfl⟩:=t;obtain⟨v,r,j,u,_⟩:=aX o;obtain rfl:=Ap b u;have d:vs[0]? =some (.pointer (some ⟨Wg,1,none⟩)):=by rw[← bq,j];rfl
  refine⟨h1,rfl,rfl,λw st e=>?_,λw e=>⟨G (fr.finish (.tuple #[])) (i++c::Z),?_,200,?_⟩⟩
  .obtain⟨es,k⟩:=WJ X.FW.D8 (Ku (P:=P) d e.cellSm)
   exact(m w).2 w es k
  .have hr:=(m w).1 _ _ _ (nL X.FW.D8 (GH d e.cellSm (e.thaw 1) (by decide)))
   rw[uo _ (by
    intro x n;simp only[ay,aB,bn]at n;rcases n with rfl|rfl|rfl|rfl<;>exact⟨rfl,by simp[qV,tO,Bg]⟩)]at hr
   exact hr
  .exact GN X b (q (.bV []) (.tuple #[]) (by unfold RV;exact⟨#[],rfl,bS⟩)) λg' l=>Wm X b h l
 .cases h
theorem acj(X:vo P E I)(a:Y 0=some (Wg,W)){s:TS}(h:Xh E I s=true){g:Goroutine}(H:SN Y c Z s.1 s.2.1 g):s.2.2=1∧II P ty Wg (Dw P ty Wg c Z) g:=by
 unfold Xh at h;split at h
 .rename_i p hp
  obtain⟨h1,args,f,fr,i,vs,rfl,y,q,t⟩:=Ig X hp H;rw[av]at h;have z:args=[.ptr 0 0,.int .u64 KK,.int .u64 (KK+1)]:=by
   unfold aao at f;split at f
   .rw[av,fK,fK]at f
    rw[f.1,f.2]
   .cases f
  subst z;obtain⟨v,r,d,A,hr⟩:=aX y;obtain⟨v2,r2,m,j,n⟩:=aX hr;obtain⟨v3,B,b,k,o⟩:=aX n;rw[bJ o]at b;obtain rfl:=Ap a A;unfold RV at j k;subst j;subst k;have d:vs=#[.pointer (some ⟨Wg,0,none⟩),.int .u64 KK,.int .u64 (KK+1)]:=by apply bU.1;rw[d,m,b]
  subst d;refine⟨h1,rfl,λw l=>⟨G (fr.finish (.bool true)) (i++c::Z),?_,200,?_⟩,λw l=>⟨G (fr.finish (.bool false)) (i++c::Z),?_,200,?_⟩⟩
  .have hr:=(t w).1 _ _ _ (nL X.FW.cas (EO l.cellSt (l.thaw 0)))
   rw[uo _ (by
    intro x u;simp only[ay,aB,bn]at u;rcases u with rfl|rfl<;>exact⟨rfl,by simp[tO,Bg]⟩)]at hr
   exact hr
  .exact GN X a (q (.bool true) (.bool true) (by unfold RV;rfl)) λg' e=>aa1 X a h.1 e
  .exact rZ (t w).1 (nL X.FW.cas (Ci l.cellSt (l.thaw 0) (by decide))) ⟨rfl,by simp[tO]⟩
  .exact GN X a (q (.bool false) (.bool false) (by unfold RV;rfl)) λg' e=>Wm X a h.2 e
 .cases h
theorem adB(X:vo P E I)(a:Y 0=some (Wg,W)){s:TS}(h:abE E I s=true){g:Goroutine}(H:SN Y c Z s.1 s.2.1 g):s.2.2=1∧QK P ty Wg (Dw P ty Wg c Z) g:=by
 unfold abE at h;split at h
 .rename_i p hp
  obtain⟨h1,args,i,fr,j,vs,rfl,k,e,f⟩:=Ig X hp H;obtain rfl:=Ew i;obtain⟨v,rfl,l⟩:=args1 k;obtain rfl:=Ap a l;rw[av]at h;refine⟨h1,rfl,λw d=>⟨_,rZ (f w).1 (nL X.FW.load (zS d.cellSt)) ⟨rfl,by simp[tO]⟩,200,?_⟩,λw d=>⟨_,rZ (f w).1 (nL X.FW.load (zS d.cellSt)) ⟨rfl,by simp[tO]⟩,200,?_⟩⟩
  .exact GN X a (e (.int .u64 KK) (.int .u64 KK) (by unfold RV;rfl)) λg' b=>acj X a h.1 b
  .exact GN X a (e (.int .u64 0) (.int .u64 0) (by unfold RV;rfl)) λg' b=>Qj X a h.2 b
 .cases h
theorem Ym(X:vo P E I)(h:uz E I=true)(c:Frame)(Z:List Frame):MLd P ty Wg (Dw P ty Wg c Z) 0 200 (G (Frame.enter P I.wait #[.pointer (some ⟨Wg,0,none⟩)] .normal) (c::Z)):=by
 unfold uz at h;split at h
 .rename_i f d
  let Y:Nm:=λi=>if i=0 then some (Wg,0)else none;have a:Y 0=some (Wg,0):=rfl;have e:dJ Y [.ptr 0 0] (#[.pointer (some ⟨Wg,0,none⟩)]:Array Value).toList:=bQ (by unfold RV;exact⟨_,a,rfl⟩) bS;have R:=kL X.FF d e (kind:= .normal) rfl;exact DN X a 200 f [] 0 _ ⟨_,[],rfl,R,rfl⟩ λg' b=>adB X a h b
 .cases h
end
end
section
open Go.Conc
open Go.ConcN (sumTo sumTo_upd upd_same)
variable{es:Array Event}{fn:FuncId}{pos:String}
structure lI(Shun:Loc->Prop)(B d:Nat)(t:Trace):Prop where
 clean:∀said,¬Race said t
 known:∀i a,touchAt t i=some a->a.loc.isMemory=true->Knows t 0 i∨(Shun a.loc∧a.kind= .atomic)
 over:t.HandedOver
 hears:Deaf t 0=d
 seen:∀op∈t,op.act.low B
theorem lI.to{Shun:Loc->Prop}{B:Nat}{t:Trace}(h:lI Shun B 0 t):Past Shun B t:=⟨h.clean,h.known,h.over,h.hears,h.seen⟩
theorem lI.of{Shun:Loc->Prop}{B:Nat}{t:Trace}(h:Past Shun B t):lI Shun B 0 t:=⟨h.clean,h.known,h.over,h.hears,h.seen⟩
theorem lI.mono{Shun:Loc->Prop}{B B' d:Nat}{t:Trace}(h:lI Shun B d t)(b:B<=B'):lI Shun B' d t:=⟨h.clean,h.known,h.over,h.hears,λop a=>MemAct.low_mono b (h.seen op a)⟩
theorem lI.own{Shun:Loc->Prop}{B d:Nat}{t:Trace}(h:lI Shun B d t){fn:FuncId}{pos:String}{es:Array Event}
 (v:∀e∈es,∀x,(MemAct.ofEvent e).touch? =some x->Shun x.loc->x.kind≠.plain)(w:∀e∈es,(MemAct.ofEvent e).low B):lI Shun B (deafBehind d es) (t++MemOp.ofEvents 0 fn pos es):=by
 have j:∀op∈MemOp.ofEvents 0 fn pos es,op.g=0:=λop c=>by obtain⟨e,_,rfl⟩:=Go.Conc.mem_ofEvents c;rfl
 refine⟨λsaid=>noRace_append (h.clean said) j λi a k op c b y l=>?_,λi a k z=>?_,handedOver_app h.over λop c=> .inl (j op c),by rw[Deaf_own,h.hears],seen_app h.seen λop c=>by obtain⟨e,m,rfl⟩:=Go.Conc.mem_ofEvents c;exact w e m⟩
 .rcases h.known i a k l.2.1 with A|⟨n,o⟩
  .exact A
  .obtain⟨e,m,rfl⟩:=Go.Conc.mem_ofEvents c
   have p:=v e m b y (l.1▸n);obtain⟨_,_,_,f⟩:=l;rw[o]at f;rcases f with x|x|⟨_,x,_⟩
   .cases x
   .exact aP x p
   .cases x
 .obtain⟨x,u,q⟩:=touch_of k
  rcases getElem?_append_cases u with⟨_,r⟩|⟨_,s⟩
  .exact(h.known i a (by rw[touchAt_of r];exact q) z).imp (·.app _) id
  .have:=knows_own u
   rw[j x s]at this;exact .inl this
theorem lI.mute{Shun:Loc->Prop}{B d:Nat}{t:Trace}(h:lI Shun B d t){g:Nat}(q:g≠0){fn:FuncId}{pos:String}{es:Array Event}(j:∀e∈es,e.mute=true):lI Shun B d (t++MemOp.ofEvents g fn pos es):=by
 have o:∀op∈MemOp.ofEvents g fn pos es,op.g=g:=λop c=>by obtain⟨e,_,rfl⟩:=Go.Conc.mem_ofEvents c;rfl
 have k:∀op∈MemOp.ofEvents g fn pos es,op.act.touch? =none:=λop c=>by obtain⟨e,l,rfl⟩:=Go.Conc.mem_ofEvents c;exact touch_mute (j e l)
 have r:∀op∈MemOp.ofEvents g fn pos es,op.act.low B:=λop c=>by obtain⟨e,l,rfl⟩:=Go.Conc.mem_ofEvents c;exact low_mute (j e l) B
 refine⟨λsaid=>noRace_append (h.clean said) o λi a _ op c b p _=>(by rw[k op c]at p;cases p),λi a s j=>?_,handedOver_app h.over λop c=> .inr (k op c),(Deaf_other t q _ o).trans h.hears,seen_app h.seen r⟩;obtain⟨x,u,f⟩:=touch_of s;rcases getElem?_append_cases u with⟨_,m⟩|⟨_,n⟩
 .exact(h.known i a (by rw[touchAt_of m];exact f) j).imp (·.app _) id
 .rw[k x n]at f;cases f
theorem Me{e:Event}{x:Touch}(h:(MemAct.ofEvent e).touch? =some x):(∃l wr b,e=⟨l,wr,b⟩∧x.loc=l∧(∀m,l≠.mark m))∨(∃a wr b,e=⟨.mark (.read a),wr,b⟩∧x.loc= .cell a∧x.kind= .said)∨(∃a wr b,e=⟨.mark (.write a),wr,b⟩∧x.loc= .cell a∧x.kind= .said):=by
 obtain⟨d,wr,b⟩:=e;cases d with
 |mark m=>cases m<;>simp_all [MemAct.ofEvent,MemAct.touch?]<;>(first|(subst h;exact .inl ⟨_,_,rfl⟩)|(subst h;exact⟨rfl,rfl⟩)|(subst h;simp))
 |obj c=>
  left;refine⟨_,_,_,rfl,?_,λm=>by simp⟩;cases wr<;>cases b<;>simp[MemAct.ofEvent,MemAct.touch?]at h<;>(subst h;rfl)
 |cell a=>left;refine⟨_,_,_,rfl,?_,λm=>by simp⟩;simp[MemAct.ofEvent,MemAct.touch?]at h;subst h;rfl
 |output=>left;refine⟨_,_,_,rfl,?_,λm=>by simp⟩;simp[MemAct.ofEvent,MemAct.touch?]at h;subst h;rfl
 |goroutines=>left;refine⟨_,_,_,rfl,?_,λm=>by simp⟩;simp[MemAct.ofEvent,MemAct.touch?]at h;subst h;rfl
def yc:Loc->Option Nat
 | .cell a=>some a.block
 | .obj r=>some r
 |_=>none
theorem xq{K:Ctx}{n:Nat}{e:Event}(h:EvG K n e){x:Touch}(d:(MemAct.ofEvent e).touch? =some x):∃b,yc x.loc=some b∧(¬K.fz b∧K.own b∨K.peek∧K.fz b)∧b<n:=by
 rcases h with h|rfl|rfl
 .rcases Me d with⟨l,wr,f,rfl,c,g⟩|⟨a,wr,f,rfl,c,_⟩|⟨a,wr,f,rfl,c,_⟩
  .rw[c]
   cases l with
   |cell a=>exact⟨_,rfl,h.1.imp id λh=>⟨h.1,h.2.1⟩,h.2⟩
   |obj r=>exact⟨_,rfl,.inl ⟨h.1,h.2.1⟩,h.2.2.1⟩
   |mark m=>exact aP rfl (g m)
   |output=>exact h.elim
   |goroutines=>exact h.elim
  .rw[c];exact⟨_,rfl,.inl ⟨h.1,h.2.1⟩,h.2.2⟩
  .rw[c];exact⟨_,rfl,.inl ⟨h.1,h.2.1⟩,h.2.2⟩
 .simp[MemAct.ofEvent,MemAct.touch?]at d
 .simp[MemAct.ofEvent,MemAct.touch?]at d
theorem CS{K:Ctx}{n:Nat}{e:Event}(h:EvG K n e):(MemAct.ofEvent e).low n:=by
 rcases h with h|rfl|rfl
 .obtain⟨b,wr,c⟩:=e
  cases b with
  |cell a=>exact h.2
  |obj r=>cases wr<;>cases c<;>exact h.2.2.1
  |mark m=>cases m<;>first|exact h.2.2|trivial
  |output=>exact h.elim
  |goroutines=>exact h.elim
 .trivial
 .trivial
def QJ(K:Ctx)(Shun:Loc->Prop):Prop:=∀l b,Shun l->yc l=some b->¬(¬K.fz b∧K.own b)∧¬(K.peek∧K.fz b)
section
variable{P:Program}{K:Ctx}{Z:Loc->Prop}{Y:Nat->Goroutine->World->Prop}
def Reaches(P:Program)(c:Array Goroutine)(w:World)(sl:Option (Nat×Nat))(t:Trace)(Q:Array Goroutine->World->Option (Nat×Nat)->Trace->Prop):Prop:=
 ∃N a w' sl' b,runNT P N (crowd c w sl) t=(.next (crowd a w' sl'),b)∧Q a w' sl' b
theorem Reaches.here{a:Array Goroutine}{w:World}{sl:Option (Nat×Nat)}{t:Trace}{Q:Array Goroutine->World->Option (Nat×Nat)->Trace->Prop}(h:Q a w sl t):Reaches P a w sl t Q:=⟨0,a,w,sl,t,rfl,h⟩
theorem Reaches.step{e a:Array Goroutine}{w w1:World}{sl b:Option (Nat×Nat)}{t:Trace}{c:Array MemOp}{Q:Array Goroutine->World->Option (Nat×Nat)->Trace->Prop}(h1:Go.stepT P (crowd e w sl)=(.next (crowd a w1 b),c))(h:Reaches P a w1 b (t++c) Q):Reaches P e w sl t Q:=by
 obtain⟨N,d,w',sl',f,hr,g⟩:=h;exact⟨N+1,d,w',sl',f,by simp only[runNT,h1];exact hr,g⟩
theorem Reaches.then{a:Array Goroutine}{w:World}{sl:Option (Nat×Nat)}{t:Trace}{Q f:Array Goroutine->World->Option (Nat×Nat)->Trace->Prop}(h:Reaches P a w sl t Q)(g:∀a w sl t,Q a w sl t->Reaches P a w sl t f):Reaches P a w sl t f:=by
 obtain⟨N,i,w',sl',k,hr,j⟩:=h;obtain⟨M,b,w2,c,t2,d,e⟩:=g _ _ _ _ j;exact⟨N+M,b,w2,c,t2,by rw[runNT_add,hr];exact d,e⟩
theorem y5{b:Array Goroutine}{w:World}{sl':Option (Nat×Nat)}{t:Trace}{q:Nat->Nat}(z:Leavers P t b q){a:Goroutine}(h0:b[0]? =some a)(m:a.status= .running){i d:Nat}{g:Goroutine}(n:0<i)(hi:b[i]? =some g)(s:g.status= .running):
 ∃k g' es,q i=k+1∧runT P (crowd b (w.at d) sl') i=(.next (crowd ((b.map (woken P g g' (w.at d))).setIfInBounds i g') (w.at d) sl'),MemOp.ofEvents i g.frame.fn g.frame.place es)∧(∀e∈es,e.mute=true)∧
  ((b.map (woken P g g' (w.at d))).setIfInBounds i g').size=b.size∧((b.map (woken P g g' (w.at d))).setIfInBounds i g')[0]? =some a∧Leavers P (t++MemOp.ofEvents i g.frame.fn g.frame.place es) ((b.map (woken P g g' (w.at d))).setIfInBounds i g') (ConcN.upd q i k)∧
  sumTo b.size (ConcN.upd q i k)<sumTo b.size q:=by
 have u:=z.old i g n hi;have A:(i==0)=false:=by simp;omega
 have o:i<b.size:=(aS.1 hi).1;cases f:q i with
 |zero=>rw[f]at u;rw[u.1]at s;cases s
 |succ k=>
  rw[f]at u;rcases u with⟨E,_⟩|⟨_,g',es,F,p,B⟩
  .rw[E]at s;cases s
  have h:=runT_crowd_go (P:=P) (sl:=sl') (i:=i) hi (by rw[A];exact p (w.at d));have D:sumTo b.size (ConcN.upd q i k)+(k+1)=sumTo b.size q+k:=by
   have:=sumTo_upd q k id o;simpa[f]using this
  refine⟨k,g',es,rfl,h,F,by simp,?_,⟨λj x hj v=>?_,λj hj=>?_⟩,by omega⟩
  .have C:i≠0:=by omega
   rw[bI C,iR,h0];simp[woken_run m]
  .by_cases c:i=j
   .subst c
    rw[jH (by simpa using o)]at v;obtain rfl:=aI v;rw[upd_same,Deaf_own];exact B
   .rw[bI c,iR]at v
    obtain⟨y,G,rfl⟩:=aN.1 v;have r:=z.old j y hj G;rw[woken_quitsD r,ConcN.upd_ne q k (Ne.symm c),Deaf_other t c _ (λop l=>by obtain⟨e,_,rfl⟩:=Go.Conc.mem_ofEvents l;rfl)];exact r
  .rw[Deaf_other t (g':=i) (by simp at hj;omega) _ (λop l=>by obtain⟨e,_,rfl⟩:=Go.Conc.mem_ofEvents l;rfl)]
   exact z.above j (by simpa using hj)
theorem sH{c:Array Goroutine}{t:Trace}{q:Nat->Nat}(f:Leavers P t c q){a g:Goroutine}{w':World}(h0:c[0]? =some a):Leavers P (t++MemOp.ofEvents 0 fn pos es) ((c.map (woken P a g w')).setIfInBounds 0 g) q:=by
 refine⟨λj x hj h=>?_,λj hj=>?_⟩
 .have d:0≠j:=by omega
  rw[bI d,iR]at h;obtain⟨y,k,rfl⟩:=aN.1 h;have i:=f.old j y hj k;rw[woken_quitsD i,Deaf_other t (by omega) _ (λop b=>by obtain⟨e,_,rfl⟩:=Go.Conc.mem_ofEvents b;rfl)];exact i
 .have l:0<c.size:=(aS.1 h0).1
  rw[Deaf_other t (g':=0) (by simp at hj;omega) _ (λop b=>by obtain⟨e,_,rfl⟩:=Go.Conc.mem_ofEvents b;rfl)];exact f.above j (by simpa using hj)
theorem Bl{d:Array Goroutine}{t:Trace}{q:Nat->Nat}(e:Leavers P t d q){a:Goroutine}(h0:d[0]? =some a)(b:a.status= .running):∀g∈d,awake g:=by
 intro g f;obtain⟨i,hi,rfl⟩:=Array.mem_iff_getElem.1 f;rcases kT i with rfl|c
 .have:d[0]=a:=by simpa[bX hi]using h0
  rw[this];exact awake_of (.inl b)
 .exact awake_of ((e.old i _ c (bX hi)).status.elim .inl λx=> .inr (.inr x))
def Frm(P:Program)(Z:Loc->Prop)(n:Nat)(T:Nat->Goroutine->World->Prop):Array Goroutine->World->Option (Nat×Nat)->Trace->Prop:=λb w _ t=>
 ∃a d q,b.size=n∧b[0]? =some a∧T d a w∧Leavers P t b q∧lI Z w.heap.size d t
theorem wL(H:QJ K Z){d:Nat}{a:Goroutine}{w:World}(J:Walk P true K Y d a w):∀(c:World),jW K w c->∀(f:Array Goroutine) (sl:Option (Nat×Nat)) (t:Trace) (q:Nat->Nat),f[0]? =some a->Leavers P t f q->lI Z c.heap.size d t->
 Reaches P f c sl t (Frm P Z f.size Y):=by
 induction J with
 |stop h=>exact λc hr f sl t q h0 o s=> .here ⟨_,_,q,rfl,h0,h c hr,o,s⟩
 |@step d a w g' w' es m A _ L=>
  have p:∀(S:Nat) (c:World),jW K w c->∀(f:Array Goroutine) (sl:Option (Nat×Nat)) (t:Trace) (q:Nat->Nat),sumTo f.size q<=S->f[0]? =some a->Leavers P t f q->lI Z c.heap.size d t->Reaches P f c sl t (Frm P Z f.size Y):=by
   intro S;induction S using Nat.strongRecOn with
   |ind S B=>
    intro c hr f sl t q U h0 o s;obtain⟨i,g,j,sl',hi,M,u⟩:=crowd_pick (P:=P) (w:=c) (sl:=sl) (Bl o h0 m) ⟨0,a,h0,m⟩;have r:jW K w (c.at j):=hr.trans (jW.drawn c j);rcases kT i with rfl|v
    .obtain rfl:g=a:=by rw[h0]at hi;exact(aI hi).symm
     obtain⟨h1,C⟩:=A (c.at j) r;have l:=runT_crowd_go (P:=P) (sl:=sl') (i:=0) hi (show stepG P (0==0) g (c.at j)=_ from h1);have n:((f.map (woken P g (g' (c.at j)) (w' (c.at j)))).setIfInBounds 0 (g' (c.at j))).size=f.size:=by simp
     have y:0<f.size:=(aS.1 h0).1;have N:(c.at j).heap.size<=(w' (c.at j)).heap.size:=C.size;have:=L (c.at j) r _ (jW.refl _) ((f.map (woken P g (g' (c.at j)) (w' (c.at j)))).setIfInBounds 0 (g' (c.at j))) sl' _ q (by simp[y]) (sH o h0)
      ((s.mono N).own (fn:=g.frame.fn) (pos:=g.frame.place) (λe D x O z=>by
        obtain⟨b,I,E,_⟩:=xq (C.evs e D) O;exact aP E λh=>h.elim (H _ b z I).1 (H _ b z I).2) (λe D=>CS (C.evs e D)))
     rw[n]at this;exact Reaches.step (by rw[u];exact l) this
    .obtain⟨k,V,Q,R,l,T,n,F,G,y⟩:=y5 (w:=c) (sl':=sl') (d:=j) o h0 m v hi M
     have:=B (sumTo f.size (ConcN.upd q i k)) (by omega) (c.at j) r _ sl' _ (ConcN.upd q i k) (by rw[n];exact ah _) F G (s.mute (by omega) T);rw[n]at this;exact Reaches.step (by rw[u];exact l) this
  exact λc hr f sl t q h0 o s=>p _ c hr f sl t q (ah _) h0 o s
end
end
section
open Go.Conc
open Go.ConcX (stA smA OfWg)
open Go.ConcN (RelBy)
structure FV(Shun:Loc->Prop)(Wg j B d0 d1:Nat)(rel:Option Nat)(t:Trace):Prop where
 clean:∀said,¬Race said t
 k0:∀i a,touchAt t i=some a->a.loc.isMemory=true->Knows t 0 i∨(Shun a.loc∧a.kind= .atomic)∨t.g? i=some j
 k1:∀i a,touchAt t i=some a->a.loc.isMemory=true->Knows t j i∨(Shun a.loc∧a.kind= .atomic)∨(OfWg Wg a.loc∧a.kind≠.plain)
 wk:∀i a,touchAt t i=some a->t.g? i=some j->OfWg Wg a.loc->a.kind= .atomic∨Knows t 0 i
 over:∀i g,t.g? i=some g->g≠0->g≠j->t.counts i->∃k,t.g? k=some 0∧HappensBefore t i k
 low:∀op∈t,op.act.low B
 deaf0:Deaf t 0=d0
 deaf1:Deaf t j=d1
 rel:∀r,rel=some r->RelBy (stA Wg) t j r∧(∀i,r<i->t.act? i≠some (.mark (.release (stA Wg))))∧(∀i a,r<i->t.g? i=some j->touchAt t i=some a->OfWg Wg a.loc)
section
variable{Z:Loc->Prop}{Y j B V W:Nat}{X:Option Nat}{t:Trace}
theorem g?_of{t:Trace}{i:Nat}{op:MemOp}(h:t[i]? =some op):t.g? i=some op.g:=by simp[Trace.g?,h]
theorem Ww{t:Trace}{i g:Nat}(h:t.g? i=some g):i<t.size:=by
 obtain⟨op,a,_⟩:=aN.1 h;exact lt_size_of_getElem? a
theorem Cm{u:Trace}(h:∀i g,t.g? i=some g->g≠0->g≠j->t.counts i->∃k,t.g? k=some 0∧HappensBefore t i k)(o:∀op∈u,op.g=0∨op.g=j∨op.act.touch? =none):
 ∀i g,(t++u).g? i=some g->g≠0->g≠j->(t++u).counts i->∃k,(t++u).g? k=some 0∧HappensBefore (t++u) i k:=by
 intro i g e h0 hj p;obtain⟨x,l,_⟩:=p;obtain⟨op,a,b⟩:=touch_of l;rcases getElem?_append_cases a with⟨hi,m⟩|⟨_,c⟩
 .obtain⟨k,n,q⟩:=h i g (by rw[← e];simp[Trace.g?,getElem?_append_old hi]) h0 hj ((counts_old hi).1 ⟨x,l,‹_›⟩)
  have f:=Ww n;exact⟨k,by rw[g?_old f];exact n,hb_app u q⟩
 .have d:op.g=g:=by rw[g?_of a]at e;exact aI e
  rcases o op c with h1|h1|h1
  .exact aP (d.symm.trans h1) h0
  .exact aP (d.symm.trans h1) hj
  .rw[h1]at b;cases b
theorem Jq{u:Trace}{g:Nat}(h:∀r,X=some r->RelBy (stA Y) t j r∧(∀i,r<i->t.act? i≠some (.mark (.release (stA Y))))∧(∀i a,r<i->t.g? i=some j->touchAt t i=some a->OfWg Y a.loc))
 (m:∀op∈u,op.g=g)(n:g≠j)(hr:∀op∈u,op.act≠.mark (.release (stA Y))):
 ∀r,X=some r->RelBy (stA Y) (t++u) j r∧(∀i,r<i->(t++u).act? i≠some (.mark (.release (stA Y))))∧(∀i a,r<i->(t++u).g? i=some j->touchAt (t++u) i=some a->OfWg Y a.loc):=by
 intro r k;obtain⟨h1,p,q⟩:=h r k;refine⟨h1.appOther m n,λi hi l=>?_,λi a hi c l=>?_⟩
 .obtain⟨op,f,b⟩:=aN.1 l
  rcases getElem?_append_cases f with⟨o,d⟩|⟨_,e⟩
  .exact p i hi (by rw[act?_of d,b])
  .exact hr op e b
 .obtain⟨op,f,b⟩:=touch_of l
  rcases getElem?_append_cases f with⟨o,d⟩|⟨_,e⟩
  .exact q i a hi (by rw[← c,g?_old o]) (by rw[touchAt_of d];exact b)
  .have:op.g=j:=by rw[g?_of f]at c;exact aI c
   exact aP ((m op e).symm.trans this) n
theorem FV.main(h:FV Z Y j B V W X t)(hj:j≠0){B':Nat}(C:B<=B')(y:∀l,Z l->¬OfWg Y l){fn:FuncId}{pos:String}{es:Array Event}
 (D:∀e∈es,∀x,(MemAct.ofEvent e).touch? =some x->OfWg Y x.loc∧x.kind≠.plain)(hr:∀e∈es,e.loc≠.mark (.release (stA Y)))(E:∀e∈es,(MemAct.ofEvent e).low B'):
 FV Z Y j B' (deafBehind V es) W X (t++MemOp.ofEvents 0 fn pos es):=by
 have q:∀op∈MemOp.ofEvents 0 fn pos es,op.g=0:=λop c=>by obtain⟨e,_,rfl⟩:=Go.Conc.mem_ofEvents c;rfl
 have v:∀op∈MemOp.ofEvents 0 fn pos es,∀x,op.act.touch? =some x->OfWg Y x.loc∧x.kind≠.plain:=λop c x v=>by obtain⟨e,r,rfl⟩:=Go.Conc.mem_ofEvents c;exact D e r x v
 refine⟨λsaid=>noRace_append (h.clean said) q λi a o op c b F z=>?_,λi a o A=>?_,λi a o A=>?_,λi a o s w=>?_,Cm h.over λop c=> .inl (q op c),λop c=>?_,by rw[Deaf_own,h.deaf0],by rw[Deaf_other t (g':=0) (Ne.symm hj) _ q,h.deaf1],Jq h.rel q (Ne.symm hj) λop c=>?_⟩
 .obtain⟨h1,G⟩:=v op c b F
  have w:OfWg Y a.loc:=by rw[z.1];exact h1
  rcases h.k0 i a o z.2.1 with u|⟨H,_⟩|s
  .exact u
  .exact aP w (y _ H)
  .rcases h.wk i a o s w with u|u
   .obtain⟨_,_,_,k⟩:=z
    rw[u]at k;rcases k with x|x|⟨_,x,_⟩
    .cases x
    .exact aP x G
    .cases x
   .exact u
 .obtain⟨x,d,f⟩:=touch_of o
  rcases getElem?_append_cases d with⟨p,m⟩|⟨_,n⟩
  .rcases h.k0 i a (by rw[touchAt_of m];exact f) A with h1|h1|h1
   .exact .inl (h1.app _)
   .exact .inr (.inl h1)
   .exact .inr (.inr (by rw[g?_old p];exact h1))
  .have:=knows_own d
   rw[q x n]at this;exact .inl this
 .obtain⟨x,d,f⟩:=touch_of o
  rcases getElem?_append_cases d with⟨_,m⟩|⟨_,n⟩
  .exact(h.k1 i a (by rw[touchAt_of m];exact f) A).imp (·.app _) id
  .exact .inr (.inr (v x n a f))
 .obtain⟨x,d,f⟩:=touch_of o
  rcases getElem?_append_cases d with⟨p,m⟩|⟨_,n⟩
  .exact(h.wk i a (by rw[touchAt_of m];exact f) (by rw[← s,g?_old p]) w).imp id (·.app _)
  .have:x.g=j:=by rw[g?_of d]at s;exact aI s
   exact aP (this.symm.trans (q x n)) hj
 .rcases oV.1 c with c|c
  .exact MemAct.low_mono C (h.low op c)
  .obtain⟨e,r,rfl⟩:=Go.Conc.mem_ofEvents c;exact E e r
 .obtain⟨e,r,rfl⟩:=Go.Conc.mem_ofEvents c
  exact λo=>hr e r (ConcR.loc_of_ofEvent o)
theorem FV.leaver(h:FV Z Y j B V W X t){g:Nat}(h0:g≠0)(hj:g≠j){fn:FuncId}{pos:String}{es:Array Event}(p:∀e∈es,e.mute=true):FV Z Y j B V W X (t++MemOp.ofEvents g fn pos es):=by
 have o:∀op∈MemOp.ofEvents g fn pos es,op.g=g:=λop c=>by obtain⟨e,_,rfl⟩:=Go.Conc.mem_ofEvents c;rfl
 have q:∀op∈MemOp.ofEvents g fn pos es,op.act.touch? =none:=λop c=>by obtain⟨e,n,rfl⟩:=Go.Conc.mem_ofEvents c;exact touch_mute (p e n)
 have old:∀{i a},touchAt (t++MemOp.ofEvents g fn pos es) i=some a->i<t.size∧touchAt t i=some a:=λ{i a} k=>by
  obtain⟨x,r,l⟩:=touch_of k;rcases getElem?_append_cases r with⟨d,s⟩|⟨_,u⟩
  .exact⟨d,by rw[touchAt_of s];exact l⟩
  .rw[q x u]at l;cases l
 refine⟨λsaid=>noRace_append (h.clean said) o λi a _ op c b v _=>(by rw[q op c]at v;cases v),λi a k m=>?_,λi a k m=>?_,λi a k y z=>?_,Cm h.over λop c=> .inr (.inr (q op c)),λop c=>?_,by rw[Deaf_other t h0 _ o,h.deaf0],by rw[Deaf_other t hj _ o,h.deaf1],Jq h.rel o hj λop c=>?_⟩
 .obtain⟨d,f⟩:=old k
  rcases h.k0 i a f m with h1|h1|h1
  .exact .inl (h1.app _)
  .exact .inr (.inl h1)
  .exact .inr (.inr (by rw[g?_old d];exact h1))
 .obtain⟨d,f⟩:=old k
  exact(h.k1 i a f m).imp (·.app _) id
 .obtain⟨d,f⟩:=old k
  exact(h.wk i a f (by rw[← y,g?_old d]) z).imp id (·.app _)
 .rcases oV.1 c with c|c
  .exact h.low op c
  .obtain⟨e,n,rfl⟩:=Go.Conc.mem_ofEvents c;exact low_mute (p e n) B
 .obtain⟨e,n,rfl⟩:=Go.Conc.mem_ofEvents c
  intro k;have:=p e n;have w:=ConcR.loc_of_ofEvent k;obtain⟨A,wr,C⟩:=e;simp only at w;subst w;cases this
theorem FV.worker(h:FV Z Y j B V W X t)(hj:j≠0){B':Nat}(G:B<=B')(y:∀l,Z l->¬OfWg Y l){fn:FuncId}{pos:String}{es:Array Event}
 (H:∀e∈es,∀x,(MemAct.ofEvent e).touch? =some x->(¬Z x.loc∧¬OfWg Y x.loc)∨(OfWg Y x.loc∧x.kind= .atomic))(I:∀e∈es,(MemAct.ofEvent e).low B')
 {rel':Option Nat}(q:∀r,rel'=some r->RelBy (stA Y) (t++MemOp.ofEvents j fn pos es) j r∧(∀i,r<i->(t++MemOp.ofEvents j fn pos es).act? i≠some (.mark (.release (stA Y))))∧(∀i a,r<i->(t++MemOp.ofEvents j fn pos es).g? i=some j->touchAt (t++MemOp.ofEvents j fn pos es) i=some a->OfWg Y a.loc)):
 FV Z Y j B' V (deafBehind W es) rel' (t++MemOp.ofEvents j fn pos es):=by
 have s:∀op∈MemOp.ofEvents j fn pos es,op.g=j:=λop c=>by obtain⟨e,_,rfl⟩:=Go.Conc.mem_ofEvents c;rfl
 have u:∀op∈MemOp.ofEvents j fn pos es,∀x,op.act.touch? =some x->(¬Z x.loc∧¬OfWg Y x.loc)∨(OfWg Y x.loc∧x.kind= .atomic):=λop c x u=>by obtain⟨e,z,rfl⟩:=Go.Conc.mem_ofEvents c;exact H e z x u
 refine⟨λsaid=>noRace_append (h.clean said) s λi a o op c b E w=>?_,λi a o A=>?_,λi a o A=>?_,λi a o J F=>?_,Cm h.over λop c=> .inr (.inl (s op c)),λop c=>?_,by rw[Deaf_other t hj _ s,h.deaf0],by rw[Deaf_own,h.deaf1],q⟩
 .rcases h.k1 i a o w.2.1 with C|⟨D,_⟩|⟨K,C⟩
  .exact C
  .rw[w.1]at D
   rcases u op c b E with⟨h1,_⟩|⟨h1,_⟩
   .exact aP D h1
   .exact aP h1 (y _ D)
  .have v:=K
   rw[w.1]at v;rcases u op c b E with⟨_,h1⟩|⟨_,h1⟩
   .exact aP v h1
   .obtain⟨_,_,_,k⟩:=w
    rw[h1]at k;rcases k with x|x|⟨_,_,x⟩
    .exact aP x C
    .cases x
    .cases x
 .obtain⟨x,d,f⟩:=touch_of o
  rcases getElem?_append_cases d with⟨p,m⟩|⟨_,n⟩
  .rcases h.k0 i a (by rw[touchAt_of m];exact f) A with h1|h1|h1
   .exact .inl (h1.app _)
   .exact .inr (.inl h1)
   .exact .inr (.inr (by rw[g?_old p];exact h1))
  .exact .inr (.inr (by rw[g?_of d,s x n]))
 .obtain⟨x,d,f⟩:=touch_of o
  rcases getElem?_append_cases d with⟨_,m⟩|⟨_,n⟩
  .exact(h.k1 i a (by rw[touchAt_of m];exact f) A).imp (·.app _) id
  .have:=knows_own d
   rw[s x n]at this;exact .inl this
 .obtain⟨x,d,f⟩:=touch_of o
  rcases getElem?_append_cases d with⟨p,m⟩|⟨_,n⟩
  .exact(h.wk i a (by rw[touchAt_of m];exact f) (by rw[← J,g?_old p]) F).imp id (·.app _)
  .rcases u x n a f with⟨_,h1⟩|⟨_,h1⟩
   .exact aP F h1
   .exact .inl h1
 .rcases oV.1 c with c|c
  .exact MemAct.low_mono G (h.low op c)
  .obtain⟨e,z,rfl⟩:=Go.Conc.mem_ofEvents c;exact I e z
theorem FV.tail(h:FV Z Y j B V W X t)(hj:j≠0)(o:∀l,Z l->¬OfWg Y l)(A:Y<B){fn:FuncId}{pos:String}{es:Array Event}
 (y:∀k e,es[k]? =some e->(MemAct.ofEvent e).touch? =none∨((∃off wr,e=⟨.cell ⟨Y,off,none⟩,wr,true⟩)∧0<deafBehind W (es.extract 0 k)))(hr:∀e∈es,e.loc≠.mark (.release (stA Y)))(C:∀e∈es,(MemAct.ofEvent e).low B):
 FV Z Y j B V (deafBehind W es) X (t++MemOp.ofEvents j fn pos es):=by
 have G:∀op∈MemOp.ofEvents j fn pos es,op.g=j:=λop p=>by obtain⟨e,_,rfl⟩:=Go.Conc.mem_ofEvents p;rfl
 have z:∀e∈es,∀x,(MemAct.ofEvent e).touch? =some x->OfWg Y x.loc∧x.kind= .atomic:=λe c x m=>by
  obtain⟨k,q⟩:=Array.mem_iff_getElem?.1 c;rcases y k e q with h1|⟨⟨off,wr,rfl⟩,_⟩
  .rw[h1]at m;cases m
  .cases wr<;>simp[MemAct.ofEvent,MemAct.touch?]at m<;>(subst m;exact⟨⟨_,rfl,rfl⟩,rfl⟩)
 refine h.worker hj (ah _) o (λe c x m=> .inr (z e c x m)) C λr s=>?_;obtain⟨h1,D,E⟩:=h.rel r s;refine⟨h1.appOwn fn pos es λk e q=>?_,λi hi u=>?_,λi a hi v u=>?_⟩
 .rcases y k e q with h1|⟨⟨off,wr,rfl⟩,F⟩
  .exact .inl h1
  .exact .inr ⟨⟨_,_,rfl⟩,by rw[h.deaf1];exact F⟩
 .obtain⟨op,w,b⟩:=aN.1 u
  rcases getElem?_append_cases w with⟨n,d⟩|⟨_,f⟩
  .exact D i hi (by rw[act?_of d,b])
  .obtain⟨e,c,rfl⟩:=Go.Conc.mem_ofEvents f
   exact hr e c (ConcR.loc_of_ofEvent b)
 .obtain⟨op,w,b⟩:=touch_of u
  rcases getElem?_append_cases w with⟨n,d⟩|⟨_,f⟩
  .exact E i a hi (by rw[← v,g?_old n]) (by rw[touchAt_of d];exact b)
  .obtain⟨e,c,rfl⟩:=Go.Conc.mem_ofEvents f
   exact(z e c a b).1
theorem FV.release(h:FV Z Y j B V 0 none t)(hj:j≠0)(f:∀l,Z l->¬OfWg Y l)(k:Y<B){fn:FuncId}{pos:String}:
 FV Z Y j B V 0 (some t.size) (t++MemOp.ofEvents j fn pos #[qV (.releaseMerge (stA Y))]):=by
 have e1:MemOp.ofEvents j fn pos #[qV (.releaseMerge (stA Y))]=#[{ g:=j,fn,pos,act:= .mark (.releaseMerge (stA Y)) }]:=by rw[ofEvents_eq];simp[qV,MemAct.ofEvent]
 have b:∀i op,t.size<i->(t++MemOp.ofEvents j fn pos #[qV (.releaseMerge (stA Y))])[i]? =some op->False:=λi op hi c=>by
  have:=lt_size_of_getElem? c;rw[e1]at this;simp at this;omega
 have e2:deafBehind 0 #[qV (.releaseMerge (stA Y))]=0:=rfl;rw[← e2];refine(h.worker hj (ah _) f (rel':=some t.size) (λe d x n=>?_) (λe d=>?_) λr hr=>?_)
 .simp at d;subst d;simp[qV,MemAct.ofEvent,MemAct.touch?]at n
 .simp at d;subst d;exact k
 .cases hr
  refine⟨ConcN.RelBy.new h.deaf1 fn pos,λi hi m=>?_,λi a hi _ m=>?_⟩
  .obtain⟨op,c,_⟩:=aN.1 m
   exact b i op hi c
  .obtain⟨op,c,_⟩:=touch_of m
   exact(b i op hi c).elim
theorem FV.fork(h:lI Z B 0 t)(hj:j≠0)(z:Deaf t j=0)(C:∀l,Z l->¬OfWg Y l)(fn d:FuncId)(pos c:String):
 FV Z Y j B 0 0 none ((t.push { g:=0,fn,pos,act:= .go j }).push { g:=j,fn:=d,pos:=c,act:= .start }):=by
 have e:(t.push { g:=0,fn,pos,act:= .go j }).push { g:=j,fn:=d,pos:=c,act:= .start }=t++#[{ g:=0,fn,pos,act:= .go j },{ g:=j,fn:=d,pos:=c,act:= .start }]:=by
  apply bU.1;simp
 rw[e];have n:(t++#[({ g:=0,fn,pos,act:= .go j }:MemOp),{ g:=j,fn:=d,pos:=c,act:= .start }])[t.size]? =some { g:=0,fn,pos,act:= .go j }:=by simp
 have o:(t++#[({ g:=0,fn,pos,act:= .go j }:MemOp),{ g:=j,fn:=d,pos:=c,act:= .start }])[t.size+1]? =some { g:=j,fn:=d,pos:=c,act:= .start }:=by simp[Array.getElem?_append]
 have D:Deaf (t++#[({ g:=0,fn,pos,act:= .go j }:MemOp),{ g:=j,fn:=d,pos:=c,act:= .start }]) 0=0:=by
  have:=Deaf_append t 0 [({ g:=0,fn,pos,act:= .go j }:MemOp),{ g:=j,fn:=d,pos:=c,act:= .start }];simp only[jZ,List.foldl_nil,deafStep]at this;rw[h.hears]at this;exact this
 have E:Deaf (t++#[({ g:=0,fn,pos,act:= .go j }:MemOp),{ g:=j,fn:=d,pos:=c,act:= .start }]) j=0:=by
  have:=Deaf_append t j [({ g:=0,fn,pos,act:= .go j }:MemOp),{ g:=j,fn:=d,pos:=c,act:= .start }];simp only[jZ,List.foldl_nil,deafStep]at this;rw[z]at this;exact this
 have L:∀op∈(#[({ g:=0,fn,pos,act:= .go j }:MemOp),{ g:=j,fn:=d,pos:=c,act:= .start }]:Trace),op.act.touch? =none:=λop f=>by
  simp at f;rcases f with rfl|rfl<;>rfl
 have old:∀{i a},touchAt (t++#[({ g:=0,fn,pos,act:= .go j }:MemOp),{ g:=j,fn:=d,pos:=c,act:= .start }]) i=some a->i<t.size∧touchAt t i=some a:=λ{i a} q=>by
  obtain⟨x,F,y⟩:=touch_of q;rcases getElem?_append_cases F with⟨s,G⟩|⟨_,H⟩
  .exact⟨s,by rw[touchAt_of G];exact y⟩
  .rw[L x H]at y;cases y
 have u:∀said,¬Race said (t++#[({ g:=0,fn,pos,act:= .go j }:MemOp),{ g:=j,fn:=d,pos:=c,act:= .start }]):=by
  intro said
  rintro⟨i,k,I,⟨a,b,q,P,J⟩,Q,R⟩
  obtain⟨hi,m⟩:=old q;obtain⟨M,K⟩:=old P;exact h.clean said ⟨i,k,I,⟨a,b,m,K,J⟩,λx=>Q (hb_app _ x),λx=>R (hb_app _ x)⟩
 have v:(t++#[({ g:=0,fn,pos,act:= .go j }:MemOp),{ g:=j,fn:=d,pos:=c,act:= .start }]).heard t.size:=⟨0,by rw[g?_of n],by rw[deaf_old (ah _)];exact h.hears⟩;have w:(t++#[({ g:=0,fn,pos,act:= .go j }:MemOp),{ g:=j,fn:=d,pos:=c,act:= .start }]).heard (t.size+1):=by
  refine⟨j,by rw[g?_of o],?_⟩;rw[deaf_succ n];simp only[deafStep];rw[deaf_old (ah _)];exact z
 have edge:HappensBefore (t++#[({ g:=0,fn,pos,act:= .go j }:MemOp),{ g:=j,fn:=d,pos:=c,act:= .start }]) t.size (t.size+1):=
  .single (.inr ⟨.spawn (child:=j) (by rw[act?_of n]) (by rw[act?_of o]) (by rw[g?_of o]),v,w⟩)
 refine⟨u,λi a q A=>?_,λi a q A=>?_,λi a q N O=>?_,Cm (λi g N h0 _ J=>h.over i g N h0 J) λop f=> .inr (.inr (L op f)),λop f=>?_,D,E,λr hr=>by cases hr⟩
 .obtain⟨s,m⟩:=old q
  rcases h.known i a m A with h1|h1
  .exact .inl (h1.app _)
  .exact .inr (.inl h1)
 .obtain⟨s,m⟩:=old q
  rcases h.known i a m A with h1|h1
  .left
   refine⟨t.size+1,_,o,rfl,?_⟩;have M:=h1.hb_new (ah _) n rfl;exact .inr (M.trans edge)
  .exact .inr (.inl h1)
 .obtain⟨s,m⟩:=old q
  have A:a.loc.isMemory=true:=by obtain⟨p,hp,_⟩:=O;rw[hp];rfl
  rcases h.known i a m A with h1|h1
  .exact .inr (h1.app _)
  .exact aP O (C _ h1.1)
 .rcases oV.1 f with f|f
  .exact h.seen op f
  .simp at f;rcases f with rfl|rfl<;>trivial
theorem FV.acquire(h:FV Z Y j B 0 W X t){r:Nat}(u:X=some r)(hj:j≠0)(G:Y<B){fn:FuncId}{pos:String}:
 lI (λl=>Z l∨OfWg Y l) B 0 (t++MemOp.ofEvents 0 fn pos #[qV (.acquire (stA Y))]):=by
 obtain⟨hr,H,n⟩:=h.rel r u;have e1:MemOp.ofEvents 0 fn pos #[qV (.acquire (stA Y))]=#[{ g:=0,fn,pos,act:= .mark (.acquire (stA Y)) }]:=by rw[ofEvents_eq];simp[qV,MemAct.ofEvent]
 have v:Deaf (t++MemOp.ofEvents 0 fn pos #[qV (.acquire (stA Y))]) 0=0:=by rw[Deaf_own,h.deaf0];rfl
 rw[e1]at v ⊢;have E:(t++#[({ g:=0,fn,pos,act:= .mark (.acquire (stA Y)) }:MemOp)])[t.size]? =some { g:=0,fn,pos,act:= .mark (.acquire (stA Y)) }:=by simp
 have S:∀op∈(#[({ g:=0,fn,pos,act:= .mark (.acquire (stA Y)) }:MemOp)]:Trace),op.g=0:=λop c=>by simp at c;subst c;rfl
 have P:∀op∈(#[({ g:=0,fn,pos,act:= .mark (.acquire (stA Y)) }:MemOp)]:Trace),op.act.touch? =none:=λop c=>by simp at c;subst c;rfl
 have e:r<t.size:=lt_of_act? hr.act;have I:(t++#[({ g:=0,fn,pos,act:= .mark (.acquire (stA Y)) }:MemOp)]).heard t.size:=⟨0,by rw[g?_of E],by rw[deaf_old (ah _)];exact h.deaf0⟩;have edge:HappensBefore (t++#[({ g:=0,fn,pos,act:= .mark (.acquire (stA Y)) }:MemOp)]) r t.size:=
  .single (.inr ⟨.marked e (.inr (by rw[act?_old e];exact hr.act)) (by rw[act?_of E]) (λk h1 J=>by rw[act?_old J];exact H k h1),(heard_old e).2 hr.heard,I⟩)
 have m:∀i,t.g? i=some j->i<=r->HappensBefore (t++#[({ g:=0,fn,pos,act:= .mark (.acquire (stA Y)) }:MemOp)]) i t.size:=λi w f=>by
  rcases aZ i r with d|T
  .have:=Ww w
   exact .trans (.single (.inl ⟨d,j,by rw[g?_old this];exact w,by rw[g?_old e];exact hr.g⟩)) edge
  .obtain rfl:i=r:=by omega
   exact edge
 have old:∀{i a},touchAt (t++#[({ g:=0,fn,pos,act:= .mark (.acquire (stA Y)) }:MemOp)]) i=some a->i<t.size∧touchAt t i=some a:=λ{i a} K=>by
  obtain⟨x,L,o⟩:=touch_of K;rcases getElem?_append_cases L with⟨d,y⟩|⟨_,M⟩
  .exact⟨d,by rw[touchAt_of y];exact o⟩
  .rw[P x M]at o;cases o
 refine⟨λsaid=>noRace_append (h.clean said) S λi a _ op c b F _=>(by rw[P op c]at F;cases F),λi a K Q=>?_,λi g z h0 U=>?_,v,λop c=>?_⟩
 .obtain⟨d,p⟩:=old K
  rcases h.k0 i a p Q with h1|⟨h1,J⟩|z
  .exact .inl (h1.app _)
  .exact .inr ⟨.inl h1,J⟩
  .rcases aZ r i with d|f
   .have N:=hr.after i d z
    have q:a.kind= .atomic:=by
     by_cases q:a.kind= .atomic
     .exact q
     .exact aP ⟨a,p,Q,.inl q⟩ N
    exact .inr ⟨.inr (n i a d z p),q⟩
   .exact .inl ⟨t.size,_,E,rfl,.inr (m i z f)⟩
 .obtain⟨x,R,A,O⟩:=U
  obtain⟨d,y⟩:=old R;have s:t.g? i=some g:=by rw[← z,g?_old d]
  have C:t.counts i:=(counts_old d).1 ⟨x,R,A,O⟩;by_cases D:g=j
  .subst D
   rcases aZ r i with hl|f
   .exact aP C (hr.after i hl s)
   .exact⟨t.size,by rw[g?_of E],m i s f⟩
  .obtain⟨k,q,F⟩:=h.over i g s h0 D C
   exact⟨k,by rw[g?_old (Ww q)];exact q,hb_app _ F⟩
 .rcases oV.1 c with c|c
  .exact h.low op c
  .simp at c;subst c;exact G
end
end
section
open Go.Conc
open Go.ConcX (WgAt wgBlock stA smA KK OfWg)
open Go.ConcN (sumTo sumTo_upd upd_same)
def Z8(Wg:Nat)(e:Event):Prop:=MEv Wg e∨∃a wr,e=⟨.cell a,wr,true⟩∧a.block=Wg
section
variable{Wg:Nat}{e:Event}
theorem xQ:Z8 Wg (tO (stA Wg)):= .inr ⟨_,_,rfl,rfl⟩
theorem Hf:Z8 Wg (Bg (stA Wg)):= .inr ⟨_,_,rfl,rfl⟩
theorem K8:∀e∈semEvents (smA Wg),Z8 Wg e:=λe a=>by
 simp[semEvents]at a;rcases a with rfl|rfl|rfl|rfl
 .exact .inl (.inr (.inl rfl))
 .exact .inr ⟨_,_,rfl,rfl⟩
 .exact .inr ⟨_,_,rfl,rfl⟩
 .exact .inl (.inr (.inr (.inl rfl)))
theorem Eu(h:Z8 Wg e){x:Touch}(b:(MemAct.ofEvent e).touch? =some x):OfWg Wg x.loc∧x.kind≠.plain:=by
 rcases h with(h|rfl|rfl|rfl)|⟨a,wr,rfl,c⟩
 .obtain⟨d,wr,f⟩:=e
  simp only at h;subst h;simp[MemAct.ofEvent,MemAct.touch?]at b
 .simp[qV,MemAct.ofEvent,MemAct.touch?]at b
 .simp[qV,MemAct.ofEvent,MemAct.touch?]at b
 .simp[qV,MemAct.ofEvent,MemAct.touch?]at b
  subst b;exact⟨⟨_,rfl,rfl⟩,by simp⟩
 .simp[MemAct.ofEvent,MemAct.touch?]at b
  subst b;exact⟨⟨_,rfl,c⟩,by simp⟩
theorem vK(h:Z8 Wg e){B:Nat}(b:Wg<B):(MemAct.ofEvent e).low B:=by
 rcases h with(h|rfl|rfl|rfl)|⟨a,wr,rfl,d⟩
 .obtain⟨c,wr,f⟩:=e
  simp only at h;subst h;trivial
 .trivial
 .trivial
 .exact b
 .show a.block<B
  omega
theorem rJ(h:Z8 Wg e):e.loc≠.mark (.release (stA Wg)):=by
 rcases h with(h|rfl|rfl|rfl)|⟨a,wr,rfl,b⟩
 .rw[h];simp
 .simp[qV]
 .simp[qV]
 .simp[qV]
 .simp
end
structure mM(Wg:Nat)(w w':World):Prop where
 size:w'.heap.size=w.heap.size
 block:∀b,b≠Wg->w'.heap[b]? =w.heap[b]?
 os:w'.os=w.os
 tape:w'.tape=w.tape
 output:w'.output=w.output
theorem mM.refl{Wg:Nat}(w:World):mM Wg w w:=⟨rfl,λ_ _=>rfl,rfl,rfl,rfl⟩
theorem mM.trans{Wg:Nat}{a b c:World}(h:mM Wg a b)(h':mM Wg b c):mM Wg a c:=
 ⟨h'.size.trans h.size,λx d=>(h'.block x d).trans (h.block x d),h'.os.trans h.os,h'.tape.trans h.tape,h'.output.trans h.output⟩
theorem mM.at_{Wg:Nat}(w:World)(d:Nat):mM Wg w (w.at d):=⟨rfl,λ_ _=>rfl,rfl,rfl,rfl⟩
theorem mM.setCell{Wg:Nat}(w:World)(a:Addr)(v:Value)(c:a.block=Wg):mM Wg w (w.setCell a v):=by
 have h:=aside_setCell w a v;exact⟨h.size,λb d=>h.block b (by rw[c];exact d),h.os,h.tape,h.output⟩
section
variable(P:Program)(Z:TypeId)(Wg:Nat)(Fin:Goroutine->Prop)
inductive JQ:Bool->Nat->Nat->Nat->Goroutine->Prop
 |ld {d n:Nat} {a:Goroutine}:MW P Z Wg (λd g=>d=1∧QK P Z Wg Fin g) n d a->JQ false d 3 n a
 |cas {d n:Nat} {a:Goroutine}:MW P Z Wg (λd g=>d=1∧II P Z Wg Fin g) n d a->JQ false d 2 n a
 |sem {d n:Nat} {a:Goroutine}:MW P Z Wg (λd g=>d=1∧Fy P Z Wg Fin g) n d a->JQ true d 1 n a
 |blk {g:Goroutine}:Fy P Z Wg Fin g->JQ true 1 0 0 { g with status:= .blocked }
inductive JB:Int->Nat->Nat->Nat->Goroutine->Prop
 |ld {d n:Nat} {a:Goroutine}:MW P Z Wg (λd g=>d=1∧QK P Z Wg Fin g) n d a->JB 0 d 5 n a
 |cas {d n:Nat} {a:Goroutine}:MW P Z Wg (λd g=>d=1∧II P Z Wg Fin g) n d a->JB 0 d 4 n a
 |sem {d n:Nat} {a:Goroutine}:MW P Z Wg (λd g=>d=1∧Fy P Z Wg Fin g) n d a->JB 1 d 3 n a
 |ld0 {d n:Nat} {a:Goroutine}:MW P Z Wg (λd g=>d=1∧Kj P Z Wg Fin g) n d a->JB 0 d 2 n a
 |acq {d n:Nat} {a:Goroutine}:MW P Z Wg (λd g=>d=0∧AtAcq P Wg Fin g) n d a->JB 0 d 1 n a
end
section
variable{P:Program}{Z:TypeId}{Wg:Nat}{Fin:Goroutine->Prop}
theorem o9{Stop:Nat->Goroutine->Prop}{n d:Nat}{a:Goroutine}(h:MW P Z Wg Stop n d a):
 Stop d a∨∃m,n=m+1∧a.status= .running∧∀w,WgLive Z Wg w->∃g' es,stepG P true a w= .go g' w es∧(∀e∈es,MEv Wg e)∧MW P Z Wg Stop m (deafBehind d es) g':=by
 cases n with
 |zero=>exact .inl h
 |succ n=>exact h.imp id λx=>⟨n,rfl,x.1,x.2⟩
theorem jV{Stop:Nat->Goroutine->Prop}(b:∀d g,Stop d g->g.status= .running){n d:Nat}{a:Goroutine}(h:MW P Z Wg Stop n d a):a.status= .running:=by
 rcases o9 h with h|⟨_,_,h,_⟩
 .exact b _ _ h
 .exact h
theorem JQ.status{reg:Bool}{d r n:Nat}{a:Goroutine}(h:JQ P Z Wg Fin reg d r n a):a.status= .running∨(a.status= .blocked∧reg=true):=by
 cases h with
 |ld h=>exact .inl (jV (λ_ _ x=>x.2.1) h)
 |cas h=>exact .inl (jV (λ_ _ x=>x.2.1) h)
 |sem h=>exact .inl (jV (λ_ _ x=>x.2.1) h)
 |blk h=>exact .inr ⟨rfl,rfl⟩
theorem JQ.awoken {reg : Bool} {d r n : Nat} {a b b' : Goroutine} {w : World} (h : JQ P Z Wg Fin reg d r n a) : ∃ r' n', JQ P Z Wg Fin reg d r' n' (Go.Conc.woken P b b' w a) := by
 rcases h.status with hr | ⟨hb, _⟩
 · exact ⟨r, n, by rw [woken_run hr]; exact h⟩
 · cases h with
   | ld h => rw [jV (fun _ _ x => x.2.1) h] at hb; cases hb
   | cas h => rw [jV (fun _ _ x => x.2.1) h] at hb; cases hb
   | sem h => rw [jV (fun _ _ x => x.2.1) h] at hb; cases hb
   | blk h =>
     unfold Go.Conc.woken
     split
     · exact ⟨1, 0, by rw [Go.ConcX.again_blocked h.1 h.2.1]; exact .sem (n := 0) (show _ ∧ _ from ⟨rfl, h⟩)⟩
     · exact ⟨0, 0, .blk h⟩
theorem JQ.up{d r n:Nat}{a b b':Goroutine}{w:World}(h:JQ P Z Wg Fin true d r n a)(c:mayWake P b=true)(f:b'.status= .running):∃g,JB P Z Wg Fin 1 d 3 g (Go.Conc.woken P b b' w a):=by
 have e:Go.Conc.woken P b b' w a=a.again w:=by unfold Go.Conc.woken;rw[c,f];rfl
 rw[e];cases h with
 |sem h=>exact⟨n,by rw[again_running _ (.inl (jV (λ_ _ x=>x.2.1) h))];exact .sem h⟩
 |blk h=>exact⟨0,by rw[Go.ConcX.again_blocked h.1 h.2.1];exact .sem (n:=0) (show _∧_ from⟨rfl,h⟩)⟩
theorem JQ.toB{d r n:Nat}{a:Goroutine}(h:JQ P Z Wg Fin false d r n a):∃b,JB P Z Wg Fin 0 d b n a:=by
 cases h with
 |ld h=>exact⟨_,.ld h⟩
 |cas h=>exact⟨_,.cas h⟩
theorem JQ.step{reg:Bool}{d r n:Nat}{a:Goroutine}(h:JQ P Z Wg Fin reg d r n a)(hr:a.status= .running){w:World}{st:Int}(c:WgAt Z Wg w st 0)(o:reg=false->st=KK):
 ∃s w' es,stepG P true a w= .go s w' es∧(∀e∈es,Z8 Wg e)∧mM Wg w w'∧∃f k q l,WgAt Z Wg w' k 0∧((f=reg∧k=st)∨(reg=false∧f=true∧k=KK+1))∧JQ P Z Wg Fin f (deafBehind d es) q l s∧(q<r∨(q=r∧l<n)):=by
 cases h with
 |ld h=>
  obtain rfl:=o rfl;rcases o9 h with⟨rfl,h1,g,_⟩|⟨m,rfl,_,g⟩
  .obtain⟨g',i,l,j⟩:=g w c
   exact⟨g',w,_,i,λe b=>by simp at b;subst b;exact xQ,.refl w,false,KK,2,l,c,.inl ⟨rfl,rfl⟩,.cas j,.inl (by omega)⟩
  .obtain⟨g',es,i,j,p⟩:=g w ⟨_,_,c⟩
   exact⟨g',w,es,i,λe b=> .inl (j e b),.refl w,false,KK,3,m,c,.inl ⟨rfl,rfl⟩,.ld p,.inr ⟨rfl,by omega⟩⟩
 |cas h=>
  obtain rfl:=o rfl;rcases o9 h with⟨rfl,h1,g,_⟩|⟨m,rfl,_,g⟩
  .obtain⟨g',i,l,j⟩:=g w c
   exact⟨g',_,_,i,λe b=>by simp at b;exact b.elim (λx=>x▸xQ) (λx=>x▸Hf),.setCell w _ _ rfl,true,KK+1,1,l,c.setSt _,.inr ⟨rfl,rfl,rfl⟩,.sem j,.inl (by omega)⟩
  .obtain⟨g',es,i,j,p⟩:=g w ⟨_,_,c⟩
   exact⟨g',w,es,i,λe b=> .inl (j e b),.refl w,false,KK,2,m,c,.inl ⟨rfl,rfl⟩,.cas p,.inr ⟨rfl,by omega⟩⟩
 |sem h=>
  rcases o9 h with⟨rfl,h1⟩|⟨m,rfl,_,g⟩
  .exact⟨_,w,_,h1.2.2.1 w st c,λe b=>by simp at b,.refl w,true,st,0,0,c,.inl ⟨rfl,rfl⟩,.blk h1,.inl (by omega)⟩
  .obtain⟨g',es,i,j,p⟩:=g w ⟨_,_,c⟩
   exact⟨g',w,es,i,λe b=> .inl (j e b),.refl w,true,st,1,m,c,.inl ⟨rfl,rfl⟩,.sem p,.inr ⟨rfl,by omega⟩⟩
 |blk h=>cases hr
theorem JB.running{b:Int}{d r n:Nat}{a:Goroutine}(h:JB P Z Wg Fin b d r n a):a.status= .running:=by
 cases h with
 |ld h=>exact jV (λ_ _ x=>x.2.1) h
 |cas h=>exact jV (λ_ _ x=>x.2.1) h
 |sem h=>exact jV (λ_ _ x=>x.2.1) h
 |ld0 h=>exact jV (λ_ _ x=>x.2.1) h
 |acq h=>exact jV (λ_ _ x=>x.2.1) h
theorem JB.step{l:Int}{d r n:Nat}{a:Goroutine}(h:JB P Z Wg Fin l d r n a){w:World}(c:WgAt Z Wg w 0 l):
 (d=0∧∃o,stepG P true a w= .go o w #[qV (.acquire (stA Wg))]∧Fin o∧l=0)∨
 ∃o w' es,stepG P true a w= .go o w' es∧(∀e∈es,Z8 Wg e)∧mM Wg w w'∧∃g p f,WgAt Z Wg w' 0 g∧JB P Z Wg Fin g (deafBehind d es) p f o∧(p<r∨(p=r∧f<n)):=by
 have idle:∀{Stop:Nat->Goroutine->Prop} {m:Nat} {a:Goroutine} (l:Int) (r:Nat),WgAt Z Wg w 0 l->(∀w,WgLive Z Wg w->∃g' es,stepG P true a w= .go g' w es∧(∀e∈es,MEv Wg e)∧MW P Z Wg Stop m (deafBehind d es) g')->
  (∀{d n a},MW P Z Wg Stop n d a->JB P Z Wg Fin l d r n a)->
  ∃o w' es,stepG P true a w= .go o w' es∧(∀e∈es,Z8 Wg e)∧mM Wg w w'∧∃g p f,WgAt Z Wg w' 0 g∧JB P Z Wg Fin g (deafBehind d es) p f o∧(p<r∨(p=r∧f<m+1)):=by
  intro Stop m a l r c b q;obtain⟨g',es,i,j,s⟩:=b w ⟨_,_,c⟩;exact⟨g',w,es,i,λe k=> .inl (j e k),.refl w,l,r,m,c,q s,.inr ⟨rfl,by omega⟩⟩
 cases h with
 |ld h=>
  right;rcases o9 h with⟨rfl,h1,_,b⟩|⟨m,rfl,_,b⟩
  .obtain⟨g',i,f,j⟩:=b w c
   exact⟨g',w,_,i,λe k=>by simp at k;subst k;exact xQ,.refl w,0,1,f,c,.acq j,.inl (by omega)⟩
  .exact idle 0 5 c b .ld
 |cas h=>
  right;rcases o9 h with⟨rfl,h1,_,b⟩|⟨m,rfl,_,b⟩
  .obtain⟨g',i,f,j⟩:=b w c
   exact⟨g',w,_,i,λe k=>by simp at k;subst k;exact xQ,.refl w,0,2,f,c,.ld0 j,.inl (by omega)⟩
  .exact idle 0 4 c b .cas
 |sem h=>
  right;rcases o9 h with⟨rfl,h1⟩|⟨m,rfl,_,b⟩
  .obtain⟨g',i,f,j⟩:=h1.2.2.2 w c
   have e:deafBehind 1 (semEvents (smA Wg))=1:=rfl;exact⟨g',_,_,i,K8,.setCell w _ _ rfl,0,2,f,c.setSm _,.ld0 (by rw[e];exact j),.inl (by omega)⟩
  .exact idle 1 3 c b .sem
 |ld0 h=>
  right;rcases o9 h with⟨rfl,h1,b⟩|⟨m,rfl,_,b⟩
  .obtain⟨g',i,f,j⟩:=b w 0 c
   exact⟨g',w,_,i,λe k=>by simp at k;subst k;exact xQ,.refl w,0,1,f,c,.acq j,.inl (by omega)⟩
  .exact idle 0 2 c b .ld0
 |acq h=>
  rcases o9 h with⟨rfl,h1,b⟩|⟨m,rfl,_,b⟩
  .obtain⟨g',i,j⟩:=b w
   exact .inl ⟨rfl,g',i,j,rfl⟩
  .exact .inr (idle 0 1 c b .acq)
end
end
section
open Go.Conc
open Go.ConcX (WgAt wgBlock stA smA KK OfWg)
open Go.ConcN (sumTo sumTo_upd upd_same)
variable{sm st:Int}{w:World}
theorem qY{ty:TypeId}{Wg:Nat}(h:WgAt ty Wg w st sm):Wg<w.heap.size:=(aS.1 h).1
theorem Pw{e:Event}(h:e.mute=true)(a:Addr):e.loc≠.mark (.release a):=by
 obtain⟨c,wr,d⟩:=e;intro b;simp only at b;subst b;cases h
section
variable{P:Program}{X:TypeId}{Y j:Nat}{Fin:Goroutine->Prop}{Z:Loc->Prop}
def Joined(P:Program)(X:TypeId)(Y:Nat)(Fin:Goroutine->Prop)(Z:Loc->Prop)(N:Nat)(w0:World):Array Goroutine->World->Option (Nat×Nat)->Trace->Prop:=λb w _ t=>
 ∃a q,b.size=N∧b[0]? =some a∧Fin a∧Leavers P t b q∧lI (λl=>Z l∨OfWg Y l) w.heap.size 0 t∧mM Y w0 w∧WgAt X Y w 0 0
theorem JC(hj:j≠0)(E:∀l,Z l->¬OfWg Y l)(W N0:Nat)(w0:World):∀(r N n:Nat) (o:Array Goroutine) (w:World) (sl:Option (Nat×Nat)) (t:Trace) (q:Nat->Nat) (a:Goroutine) (O F:Nat) (A:Int),
 n+sumTo o.size q<=N->o.size=N0->mM Y w0 w->JB P X Y Fin A O r n a->o[0]? =some a->Leavers P t o q->WgAt X Y w 0 A->FV Z Y j w.heap.size O F (some W) t->
 Reaches P o w sl t (Joined P X Y Fin Z N0 w0):=by
 intro r;induction r using Nat.strongRecOn with
 |ind r S=>
  intro N;induction N using Nat.strongRecOn with
  |ind N v=>
   intro n o w sl t q a O F A hN c hR B h0 G hw C;obtain⟨i,g,u,sl',hi,hg,y⟩:=crowd_pick (P:=P) (w:=w) (sl:=sl) (Bl G h0 B.running) ⟨0,a,h0,B.running⟩;have h:WgAt X Y (w.at u) 0 A:=hw;have p:mM Y w0 (w.at u):=hR.trans (.at_ w u)
   replace C:FV Z Y j (w.at u).heap.size O F (some W) t:=C
   have z:0<o.size:=(aS.1 h0).1;rcases kT i with rfl|H
   .obtain rfl:g=a:=by rw[h0]at hi;exact(aI hi).symm
    rcases B.step h with⟨rfl,D,h1,I,rfl⟩|⟨D,w',es,h1,I,T,J,r',U,V,h5,Q⟩
    .have b:=runT_crowd_go (P:=P) (sl:=sl') (i:=0) hi (show stepG P (0==0) g (w.at u)=_ from h1)
     exact Reaches.step (by rw[y];exact b) (.here ⟨D,q,by simpa using c,by simp[z],I,sH G h0,C.acquire rfl hj (qY h),p,h⟩)
    .have b:=runT_crowd_go (P:=P) (sl:=sl') (i:=0) hi (show stepG P (0==0) g (w.at u)=_ from h1)
     have f:((o.map (woken P g D w')).setIfInBounds 0 D).size=o.size:=by simp
     have m:=C.main (fn:=g.frame.fn) (pos:=g.frame.place) (B':=w'.heap.size) hj (by rw[T.size];exact ah _) E (λe s x hx=>Eu (I e s) hx) (λe s=>rJ (I e s)) (λe s=>vK (I e s) (qY V));refine Reaches.step (by rw[y];exact b) ?_;rcases Q with Q|⟨rfl,Q⟩
     .exact S r' Q _ U _ w' sl' _ q D _ F J (ah _) (f.trans c) (p.trans T) h5 (by simp[z]) (sH G h0) V m
     .exact v (U+sumTo o.size q) (by omega) U _ w' sl' _ q D _ F J (by rw[f];exact ah _) (f.trans c) (p.trans T) h5 (by simp[z]) (sH G h0) V m
   .obtain⟨k,g1,es1,hqi,b,R,f,K,L,hlt'⟩:=y5 (w:=w) (sl':=sl') (d:=u) G h0 B.running H hi hg
    refine Reaches.step (by rw[y];exact b) ?_;by_cases M:i=j
    .subst M
     have m:=C.tail (fn:=g.frame.fn) (pos:=g.frame.place) hj E (qY h) (λk e s=> .inl (touch_mute (R e (Array.mem_of_getElem? s)))) (λe s=>Pw (R e s) _) (λe s=>low_mute (R e s) _);exact v (n+sumTo o.size (ConcN.upd q i k)) (by omega) n _ (w.at u) sl' _ (ConcN.upd q i k) a _ _ A (by rw[f];exact ah _) (f.trans c) p B K L h m
    .have m:=C.leaver (g:=i) (fn:=g.frame.fn) (pos:=g.frame.place) (by omega) M R
     exact v (n+sumTo o.size (ConcN.upd q i k)) (by omega) n _ (w.at u) sl' _ (ConcN.upd q i k) a _ _ A (by rw[f];exact ah _) (f.trans c) p B K L h m
end
end
section
open Go.Conc
open Go.ConcX (WgAt wgBlock stA smA KK OfWg)
open Go.ConcN (sumTo sumTo_upd upd_same)
variable{fn:FuncId}{pos:String}
structure Du(P:Program)(j:Nat)(t:Trace)(gs:Array Goroutine)(q:Nat->Nat):Prop where
 old:∀i g,0<i->i≠j->gs[i]? =some g->QuitsD P (q i) (Deaf t i) g
 above:∀i,gs.size<=i->Deaf t i=0
structure PA(P:Program)(ty:TypeId)(Wg j:Nat)(Fin:Goroutine->Prop)(Shun:Loc->Prop)(reg:Bool)(st:Int)(d0 d1 r n:Nat)(rel:Option Nat)(gs:Array Goroutine)(w:World)(t:Trace)(a b:Goroutine)(q:Nat->Nat):Prop where
 h0:gs[0]? =some a
 hj:gs[j]? =some b
 jq:JQ P ty Wg Fin reg d0 r n a
 wz:WgAt ty Wg w st 0
 st0:reg=false->st=KK
 run:b.status= .running
 lv:Du P j t gs q
 tr:FV Shun Wg j w.heap.size d0 d1 rel t
section
variable{P:Program}{R:TypeId}{V j:Nat}{Fin:Goroutine->Prop}{Y:Loc->Prop}{X:Bool}{U:Int}{T Q r n:Nat}{W:Option Nat}{Z:Array Goroutine}{w:World}{O:Option (Nat×Nat)}{t:Trace}{a b:Goroutine}{q:Nat->Nat}
theorem Ez{i m:Nat}{g g' x:Goroutine}{w':World}(c:i≠m)(h:Z[m]? =some x):((Z.map (woken P g g' w')).setIfInBounds i g')[m]? =some (woken P g g' w' x):=by
 rw[bI c,iR,h];rfl
theorem Ag{i:Nat}{g g':Goroutine}{w':World}{x:Goroutine}(h:Z[i]? =some x):((Z.map (woken P g g' w')).setIfInBounds i g')[i]? =some g':=by
 have c:i<Z.size:=(aS.1 h).1;rw[jH (by simpa using c)]
theorem jg{i:Nat}{g g':Goroutine}{w':World}:((Z.map (woken P g g' w')).setIfInBounds i g').size=Z.size:=by simp
theorem xS{g:Nat}{es:Array Event}:∀op∈MemOp.ofEvents g fn pos es,op.g=g:=λop c=>by obtain⟨e,_,rfl⟩:=Go.Conc.mem_ofEvents c;rfl
theorem Du.own(d:Du P j t Z q){i:Nat}(hi:i=0∨i=j){g g' x:Goroutine}{w':World}{fn:FuncId}{pos:String}{es:Array Event}(k:Z[i]? =some x):Du P j (t++MemOp.ofEvents i fn pos es) ((Z.map (woken P g g' w')).setIfInBounds i g') q:=by
 refine⟨λm y h1 l e=>?_,λm f=>?_⟩
 .have c:i≠m:=by rcases hi with rfl|rfl<;>omega
  rw[bI c,iR]at e;obtain⟨z,o,rfl⟩:=aN.1 e;have h:=d.old m z h1 l o;rw[woken_quitsD h,Deaf_other t (g':=i) c _ xS];exact h
 .have p:i<Z.size:=(aS.1 k).1
  rw[jg]at f;rw[Deaf_other t (g':=i) (by omega) _ xS];exact d.above m f
theorem Du.step(A:Du P j t Z q){sl':Option (Nat×Nat)}{i d:Nat}{g:Goroutine}(l:0<i)(B:i≠j)(hi:Z[i]? =some g)(u:g.status= .running):
 ∃k g' es,runT P (crowd Z (w.at d) sl') i=(.next (crowd ((Z.map (woken P g g' (w.at d))).setIfInBounds i g') (w.at d) sl'),MemOp.ofEvents i g.frame.fn g.frame.place es)∧(∀e∈es,e.mute=true)∧
  Du P j (t++MemOp.ofEvents i g.frame.fn g.frame.place es) ((Z.map (woken P g g' (w.at d))).setIfInBounds i g') (ConcN.upd q i k)∧sumTo Z.size (ConcN.upd q i k)<sumTo Z.size q:=by
 have v:=A.old i g l B hi;have C:(i==0)=false:=by simp;omega
 have D:i<Z.size:=(aS.1 hi).1;cases f:q i with
 |zero=>rw[f]at v;rw[v.1]at u;cases u
 |succ k=>
  rw[f]at v;rcases v with⟨G,_⟩|⟨_,g',es,H,o,E⟩
  .rw[G]at u;cases u
  have h:=runT_crowd_go (P:=P) (sl:=sl') (i:=i) hi (by rw[C];exact o (w.at d));have F:sumTo Z.size (ConcN.upd q i k)+(k+1)=sumTo Z.size q+k:=by
   have:=sumTo_upd q k id D;simpa[f]using this
  refine⟨k,g',es,h,H,⟨λm x h1 I z=>?_,λm p=>?_⟩,by omega⟩
  .by_cases c:i=m
   .subst c
    rw[Ag hi]at z;obtain rfl:=aI z;rw[upd_same,Deaf_own];exact E
   .rw[bI c,iR]at z
    obtain⟨y,J,rfl⟩:=aN.1 z;have s:=A.old m y h1 I J;rw[woken_quitsD s,ConcN.upd_ne q k (Ne.symm c),Deaf_other t (g':=i) c _ xS];exact s
  .rw[jg]at p
   rw[Deaf_other t (g':=i) (by omega) _ xS];exact A.above m p
theorem PA.awake(h:PA P R V j Fin Y X U T Q r n W Z w t a b q):∀g∈Z,Go.Conc.awake g:=by
 intro g f;obtain⟨i,hi,rfl⟩:=Array.mem_iff_getElem.1 f;rcases kT i with rfl|c
 .have:Z[0]=a:=by simpa[bX hi]using h.h0
  rw[this];intro t e;rcases h.jq.status with x|⟨x,_⟩<;>rw[x]at e<;>cases e
 .by_cases d:i=j
  .subst d
   have:Z[i]=b:=by simpa[bX hi]using h.hj
   rw[this];exact awake_of (.inl h.run)
  .exact awake_of ((h.lv.old i _ c d (bX hi)).status.elim .inl λx=> .inr (.inr x))
def acw(P:Program)(R:TypeId)(V j:Nat)(Fin:Goroutine->Prop)(Y:Loc->Prop)(f:Nat)(w0:World)(X:Bool)(U:Int)(Q:Nat)(W:Option Nat)(b:Goroutine):Array Goroutine->World->Option (Nat×Nat)->Trace->Prop:=λZ w O t=>
 ∃g sl' c d e h i k q',Z.size=f∧Go.stepT P (crowd Z w O)=runT P (crowd Z (w.at g) sl') j∧mM V w0 w∧((c=X∧d=U)∨(X=false∧c=true∧d=KK+1))∧PA P R V j Fin Y c d e Q h i W Z w t k b q'
theorem L9(B:j≠0)(M:∀l,Y l->¬OfWg V l)(N0:Nat)(w0:World)(c:Bool)(st0:Int)(hst0:c=false->st0=KK):∀(S r n:Nat) (Z:Array Goroutine) (w:World) (O:Option (Nat×Nat)) (t:Trace) (q:Nat->Nat) (a:Goroutine) (T:Nat) (X:Bool) (U:Int),
 sumTo Z.size q=S->Z.size=N0->mM V w0 w->((X=c∧U=st0)∨(c=false∧X=true∧U=KK+1))->PA P R V j Fin Y X U T Q r n W Z w t a b q->
 Reaches P Z w O t (acw P R V j Fin Y N0 w0 c st0 Q W b):=by
 intro S;induction S using Nat.strongRecOn with
 |ind S N=>
 intro r;induction r using Nat.strongRecOn with
 |ind r ihr=>
 intro n;induction n using Nat.strongRecOn with
 |ind n ihn=>
 intro Z w O t q a T X U hS K hR p h;obtain⟨i,g,s,sl',hi,hg,y⟩:=crowd_pick (P:=P) (w:=w) (sl:=O) h.awake ⟨j,b,h.hj,h.run⟩;by_cases u:i=j
 .subst u
  exact .here ⟨s,sl',X,U,T,r,n,a,q,K,y,hR,p,h⟩
 have C:WgAt R V (w.at s) U 0:=h.wz;have z:mM V w0 (w.at s):=hR.trans (.at_ w s);have hP:FV Y V j (w.at s).heap.size T Q W t:=h.tr;rcases kT i with rfl|D
 .obtain rfl:g=a:=by rw[h.h0]at hi;exact(aI hi).symm
  obtain⟨E,w',es,h1,h2,h3,f,o,L,F,h4,h5,h6,G⟩:=h.jq.step hg C h.st0;have m:=runT_crowd_go (P:=P) (sl:=sl') (i:=0) hi (show stepG P (0==0) g (w.at s)=_ from h1);have A:=hP.main (fn:=g.frame.fn) (pos:=g.frame.place) (B':=w'.heap.size) B (by rw[h3.size];exact ah _) M (λe H x hx=>Eu (h2 e H) hx) (λe H=>rJ (h2 e H)) (λe H=>vK (h2 e H) (qY h4));have v:(f=c∧o=st0)∨(c=false∧f=true∧o=KK+1):=by
   rcases h5 with⟨rfl,rfl⟩|⟨e1,e2,e3⟩
   .exact p
   .rcases p with⟨rfl,rfl⟩|⟨e4,e5,e6⟩
    .exact .inr ⟨e1,e2,e3⟩
    .rw[e1]at e5;cases e5
  have I:PA P R V j Fin Y f o (deafBehind T es) Q L F W ((Z.map (woken P g E w')).setIfInBounds 0 E) w' (t++MemOp.ofEvents 0 g.frame.fn g.frame.place es) E b q:=
   ⟨Ag hi,by rw[Ez (Ne.symm B) h.hj,woken_run h.run],h6,h4,λe=>(by
    rcases h5 with⟨rfl,rfl⟩|⟨e1,e2,e3⟩
    .exact h.st0 e
    .rw[e2]at e;cases e),h.run,h.lv.own (.inl rfl) hi,A⟩
  refine Reaches.step (by rw[y];exact m) ?_;rcases G with G|⟨rfl,G⟩
  .exact ihr L G F _ w' sl' _ q E _ f o (by rw[jg];exact hS) (jg.trans K) (z.trans h3) v I
  .exact ihn F G _ w' sl' _ q E _ f o (by rw[jg];exact hS) (jg.trans K) (z.trans h3) v I
 .obtain⟨k,g1,es1,m,hm,hL',J⟩:=h.lv.step (w:=w) (sl':=sl') (d:=s) D u hi hg
  have A:=hP.leaver (g:=i) (fn:=g.frame.fn) (pos:=g.frame.place) (by omega) u hm;obtain⟨L,F,hjq⟩:=h.jq.awoken (b:=g) (b':=g1) (w:=w.at s);refine Reaches.step (by rw[y];exact m) ?_;exact N _ (by rw[← hS];exact J) L F _ (w.at s) sl' _ (ConcN.upd q i k) _ T X U (by rw[jg]) (jg.trans K) z p
   ⟨Ez (by omega) h.h0,by rw[Ez u h.hj,woken_run h.run],hjq,C,h.st0,h.run,hL',A⟩
theorem PA.work(h:PA P R V j Fin Y X U T Q r n W Z w t a b q)(d:j≠0){b':Goroutine}{w2:World}{es:Array Event}(c:b'.status= .running){st2:Int}(k:WgAt R V w2 st2 0)(e:X=false->st2=KK){rel':Option Nat}
 (l:FV Y V j w2.heap.size T (deafBehind Q es) rel' (t++MemOp.ofEvents j b.frame.fn b.frame.place es)):
 ∃f g,PA P R V j Fin Y X st2 T (deafBehind Q es) f g rel' ((Z.map (woken P b b' w2)).setIfInBounds j b') w2 (t++MemOp.ofEvents j b.frame.fn b.frame.place es) (woken P b b' w2 a) b' q:=by
 obtain⟨f,g,i⟩:=h.jq.awoken (b:=b) (b':=b') (w:=w2);exact⟨f,g,Ez d h.h0,Ag h.hj,i,k,e,c,h.lv.own (.inr rfl) h.hj,l⟩
theorem Du.aae(e:j≠0)(h:Du P j t Z q){b:Goroutine}(f:Z[j]? =some b){k:Nat}(l:QuitsD P k (Deaf t j) b):Leavers P t Z (ConcN.upd q j k):=by
 refine⟨λi g h1 d=>?_,h.above⟩;by_cases c:i=j
 .subst c
  rw[f]at d;cases d;rw[upd_same];exact l
 .rw[ConcN.upd_ne q k c]
  exact h.old i g h1 c d
end
end
section
open Go.Conc
open Go.ConcX (WgAt wgBlock stA smA KK OfWg RCa RCd DC0 KCa Full Payload Shy DCs EvQ)
open Go.ConcN (sumTo sumTo_upd upd_same)
section
variable{P:Program}{ty:TypeId}{Z j:Nat}{Fin:Goroutine->Prop}{Y:Loc->Prop}{X:Bool}{S:Int}{V Q r n:Nat}{R:Option Nat}{W:Array Goroutine}{w:World}{U:Option (Nat×Nat)}{t:Trace}{a b:Goroutine}{q:Nat->Nat}
theorem PA.at_(h:PA P ty Z j Fin Y X S V Q r n R W w t a b q)(d:Nat):PA P ty Z j Fin Y X S V Q r n R W (w.at d) t a b q:=⟨h.h0,h.hj,h.jq,h.wz,h.st0,h.run,h.lv,h.tr⟩
theorem kG{T:Array Goroutine->World->Option (Nat×Nat)->Trace->Prop}(hj0:j≠0)(hSW:∀l,Y l->¬OfWg Z l)(h:PA P ty Z j Fin Y X S V Q r n R W w t a b q)
 (K:∀d w1 g t1 c st1 e r1 m o p,d.size=W.size->mM Z w w1->((c=X∧st1=S)∨(X=false∧c=true∧st1=KK+1))->PA P ty Z j Fin Y c st1 e Q r1 m R d w1 t1 o b p->
  ∃b' w2 es,stepG P false b w1= .go b' w2 es∧Reaches P ((d.map (woken P b b' w2)).setIfInBounds j b') w2 g (t1++MemOp.ofEvents j b.frame.fn b.frame.place es) T):
 Reaches P W w U t T:=by
 refine Reaches.then (L9 hj0 hSW W.size w X S h.st0 _ r n W w U t q a V X S rfl rfl (.refl w) (.inl ⟨rfl,rfl⟩) h) ?_
 rintro d w1 g t1 ⟨s,sl',c,st1,e,r1,m,o,p,y,u,z,v,k⟩
 obtain⟨b',w2,es,h1,A⟩:=K d (w1.at s) sl' t1 c st1 e r1 m o p y (z.trans (.at_ w1 s)) v (k.at_ s);have x:(j==0)=false:=by simp;exact hj0
 have f:=runT_crowd_go (P:=P) (sl:=sl') (i:=j) k.hj (by rw[x];exact h1);exact Reaches.step (by rw[u];exact f) A
theorem YT(t:Trace)(g:Nat)(fn:FuncId)(pos:String):t++MemOp.ofEvents g fn pos #[]=t:=by rw[ofEvents_none];simp
theorem PA.idle(h:PA P ty Z j Fin Y X S V Q r n R W w t a b q)(hj0:j≠0){b':Goroutine}(c:b'.status= .running):
 ∃d f,PA P ty Z j Fin Y X S V Q d f R ((W.map (woken P b b' w)).setIfInBounds j b') w (t++MemOp.ofEvents j b.frame.fn b.frame.place #[]) (woken P b b' w a) b' q:=by
 have e:deafBehind Q #[]=Q:=rfl;have:=h.work (es:=#[]) (w2:=w) (rel':=R) hj0 c h.wz h.st0 (by rw[e,YT];exact h.tr);rw[e]at this;exact this
theorem rE{w':World}(d:mM Z w w'){S:Int}(h:WgAt ty Z w S 0)(h':WgAt ty Z w' S 0)(x:Nat):w'.heap[x]? =w.heap[x]? :=by
 by_cases c:x=Z
 .subst c;exact(show w'.heap[x]? =some _ from h').trans (show w.heap[x]? =some _ from h).symm
 .exact d.block x c
theorem Br(e:X=true->S=KK+1){c:Bool}{st1:Int}(d:(c=X∧st1=S)∨(X=false∧c=true∧st1=KK+1)):c=true->st1=KK+1:=by
 rcases d with⟨rfl,rfl⟩|⟨_,_,rfl⟩
 .exact e
 .exact λ_=>rfl
theorem Ec(c:X=true->S=KK+1)(h:PA P ty Z j Fin Y X S V Q r n R W w t a b q){w1:World}{Low:Nat}(d:mM Z w1 w):RCa ty Z Low w1 w:=
 ⟨λx _ e=>d.block x e,λ_=>by
  cases hr:X with
  |false=>left;rw[← h.st0 hr];exact h.wz
  |true=>right;rw[← c hr];exact h.wz⟩
section
variable(T:j≠0)(O:∀l,Y l->¬OfWg Z l)(L:Nat)(M:World)(N K:Nat)
include T O
theorem st6:∀(m:Nat) (W:Array Goroutine) (w:World) (U:Option (Nat×Nat)) (t:Trace) (q:Nat->Nat) (a b:Goroutine) (V r n:Nat),W.size=L->mM Z M w->Goes P false (RCd N) DC0 (Go.ConcX.AtD4 P Z) m b w->
 PA P ty Z j Fin Y true 0 V 1 r n (some K) W w t a b q->Reaches P W w U t (Joined P ty Z Fin Y L M):=by
 intro m;induction m with
 |zero=>exact λW w U t q a b V r n y z A h=>fin W w U t q a b V r n y z A h
 |succ m ih=>
  intro W w U t q a b V r n y z A h;rcases Goes.cases A with C|⟨m',hm,C⟩
  .exact fin W w U t q a b V r n y z C h
  .cases hm
   refine kG T O h λD w1 o t1 d st1 p r1 n1 a1 E s f u c=>?_;obtain⟨rfl,rfl⟩:d=true∧st1=0:=u.elim id λx=>by cases x.1
   obtain⟨b',w2,es,h1,⟨rfl,rfl⟩,h2⟩:=C w1 λx _=>rE f h.wz c.wz x;have B:b'.status= .running:=Goes.running (λ_ _ x=>x.1) w2 (RCd.refl w2) h2;obtain⟨r2,n2,h3⟩:=c.idle T B;exact⟨b',w2,#[],h1,ih _ w2 o _ E _ b' p r2 n2 (jg.trans (s.trans y)) (z.trans f) h2 h3⟩
where
 fin (W:Array Goroutine) (w:World) (U:Option (Nat×Nat)) (t:Trace) (q:Nat->Nat) (a b:Goroutine) (V r n:Nat) (y:W.size=L) (z:mM Z M w) (A:∀i,RCd N w i->Go.ConcX.AtD4 P Z b i)
  (h:PA P ty Z j Fin Y true 0 V 1 r n (some K) W w t a b q):Reaches P W w U t (Joined P ty Z Fin Y L M):=by
  refine kG T O h λD w1 o t1 d st1 p r1 n1 a1 E s f u c=>?_;obtain⟨rfl,rfl⟩:d=true∧st1=0:=u.elim id λx=>by cases x.1
  obtain⟨_,F,b',h1,k,G⟩:=A w1 λx _=>rE f h.wz c.wz x;have H:b'.status= .running:=by
   cases k with
   |zero=>exact aP G.2 (by decide)
   |succ k=>exact G.elim (λx=>aP x.2 (by decide)) (λx=>x.1)
  have e1:deafBehind 1 (semEvents (smA Z))=1:=rfl;have I:(w1.setCell (smA Z) (.int .u32 1)).heap.size=w1.heap.size:=(mM.setCell (Wg:=Z) w1 (smA Z) (.int .u32 1) rfl).size;have v:=c.tr.tail (fn:=b.frame.fn) (pos:=b.frame.place) (es:=semEvents (smA Z)) T O (qY c.wz) (λk e J=>by
   have:k=0∨k=1∨k=2∨k=3:=by have:=(aS.1 J).1;simp[semEvents]at this;omega
   rcases this with rfl|rfl|rfl|rfl<;>(simp[semEvents]at J;subst J)
   .exact .inl rfl
   .exact .inr ⟨⟨1,false,rfl⟩,by simp[deafBehind,semEvents,tO,Bg]⟩
   .exact .inr ⟨⟨1,true,rfl⟩,by simp[deafBehind,semEvents,tO,Bg]⟩
   .exact .inl rfl) (λe he=>rJ (K8 e he)) (λe he=>vK (K8 e he) (qY c.wz))
  rw[e1]at v;obtain⟨n',hjb⟩:=c.jq.up (w:=w1.setCell (smA Z) (.int .u32 1)) F H;have hL:=(c.lv.own (g:=b) (g':=b') (w':=w1.setCell (smA Z) (.int .u32 1)) (fn:=b.frame.fn) (pos:=b.frame.place) (es:=semEvents (smA Z)) (.inr rfl) c.hj).aae T (Ag c.hj) (k:=k) (by rw[v.deaf1];exact G);exact⟨b',_,_,h1,JC T O K L M 3 _ n' _ _ o _ (ConcN.upd E j k) _ p 1 1 (ah _) (jg.trans (s.trans y)) ((z.trans f).trans (.setCell w1 (smA Z) _ rfl)) hjb (Ez T c.h0) hL (Go.ConcX.WgAt.setSm c.wz 1) (by rw[I];exact v)⟩
theorem st5:∀(m:Nat) (W:Array Goroutine) (w:World) (U:Option (Nat×Nat)) (t:Trace) (q:Nat->Nat) (a b:Goroutine) (V r n:Nat),W.size=L->mM Z M w->Goes P false (RCd N) DC0 (Go.ConcX.AtD3 P Z N) m b w->
 PA P ty Z j Fin Y true 1 V 1 r n (some K) W w t a b q->Reaches P W w U t (Joined P ty Z Fin Y L M):=by
 intro m;induction m with
 |zero=>exact λW w U t q a b V r n v y z h=>fin W w U t q a b V r n v y z h
 |succ m ih=>
  intro W w U t q a b V r n v y z h;rcases Goes.cases z with D|⟨m',hm,D⟩
  .exact fin W w U t q a b V r n v y D h
  .cases hm
   refine kG T O h λE w1 o t1 d st1 p r1 n1 a1 F s f u c=>?_;obtain⟨rfl,rfl⟩:d=true∧st1=1:=u.elim id λx=>by cases x.1
   obtain⟨b',w2,es,h1,⟨rfl,rfl⟩,A⟩:=D w1 λx _=>rE f h.wz c.wz x;have g:b'.status= .running:=Goes.running (λ_ _ x=>x.1) w2 (RCd.refl w2) A;obtain⟨r2,G,C⟩:=c.idle T g;exact⟨b',w2,#[],h1,ih _ w2 o _ F _ b' p r2 G (jg.trans (s.trans v)) (y.trans f) A C⟩
where
 fin (W:Array Goroutine) (w:World) (U:Option (Nat×Nat)) (t:Trace) (q:Nat->Nat) (a b:Goroutine) (V r n:Nat) (v:W.size=L) (y:mM Z M w) (z:∀i,RCd N w i->Go.ConcX.AtD3 P Z N b i)
  (h:PA P ty Z j Fin Y true 1 V 1 r n (some K) W w t a b q):Reaches P W w U t (Joined P ty Z Fin Y L M):=by
  refine kG T O h λE w1 o t1 d st1 p r1 n1 a1 F s f u c=>?_;obtain⟨rfl,rfl⟩:d=true∧st1=1:=u.elim id λx=>by cases x.1
  obtain⟨_,b',h1,m,A⟩:=z w1 λx _=>rE f h.wz c.wz x;have g:b'.status= .running:=Goes.running (λ_ _ x=>x.1) _ (RCd.refl _) A;have e1:deafBehind 1 #[Bg (stA Z)]=1:=rfl;have H:(w1.setCell (stA Z) (.int .u64 0)).heap.size=w1.heap.size:=(mM.setCell (Wg:=Z) w1 (stA Z) (.int .u64 0) rfl).size;have I:=c.tr.tail (fn:=b.frame.fn) (pos:=b.frame.place) (es:=#[Bg (stA Z)]) T O (qY c.wz) (λk e J=>by
   have:k=0:=by have:=(aS.1 J).1;simp at this;omega
   subst this;simp at J;subst J;exact .inr ⟨⟨0,true,rfl⟩,by simp[deafBehind,semEvents,tO,Bg]⟩) (λe B=>by simp at B;subst B;exact rJ Hf) (λe B=>by simp at B;subst B;exact vK Hf (qY c.wz))
  obtain⟨r2,G,C⟩:=c.work (es:=#[Bg (stA Z)]) (rel':=some K) T g (Go.ConcX.WgAt.setSt c.wz 0) (λe=>by cases e) (by rw[H];exact I);rw[e1]at C;exact⟨b',_,_,h1,st6 (Fin:=Fin) (ty:=ty) T O L M N K m _ _ o _ F _ b' p r2 G (jg.trans (s.trans v)) ((y.trans f).trans (.setCell w1 (stA Z) _ rfl)) A C⟩
theorem st4:∀(m:Nat) (W:Array Goroutine) (w:World) (U:Option (Nat×Nat)) (t:Trace) (q:Nat->Nat) (a b:Goroutine) (V r n:Nat),W.size=L->mM Z M w->Goes P false (RCd N) DC0 (Go.ConcX.AtD2 P Z N) m b w->
 PA P ty Z j Fin Y true 1 V 1 r n (some K) W w t a b q->Reaches P W w U t (Joined P ty Z Fin Y L M):=by
 intro m;induction m with
 |zero=>exact λW w U t q a b V r n v y z h=>fin W w U t q a b V r n v y z h
 |succ m J=>
  intro W w U t q a b V r n v y z h;rcases Goes.cases z with D|⟨m',hm,D⟩
  .exact fin W w U t q a b V r n v y D h
  .cases hm
   refine kG T O h λE w1 o t1 d st1 p r1 n1 a1 F s f u c=>?_;obtain⟨rfl,rfl⟩:d=true∧st1=1:=u.elim id λx=>by cases x.1
   obtain⟨b',w2,es,h1,⟨rfl,rfl⟩,A⟩:=D w1 λx _=>rE f h.wz c.wz x;have g:b'.status= .running:=Goes.running (λ_ _ x=>x.1) w2 (RCd.refl w2) A;obtain⟨r2,G,C⟩:=c.idle T g;exact⟨b',w2,#[],h1,J _ w2 o _ F _ b' p r2 G (jg.trans (s.trans v)) (y.trans f) A C⟩
where
 fin (W:Array Goroutine) (w:World) (U:Option (Nat×Nat)) (t:Trace) (q:Nat->Nat) (a b:Goroutine) (V r n:Nat) (v:W.size=L) (y:mM Z M w) (z:∀i,RCd N w i->Go.ConcX.AtD2 P Z N b i)
  (h:PA P ty Z j Fin Y true 1 V 1 r n (some K) W w t a b q):Reaches P W w U t (Joined P ty Z Fin Y L M):=by
  refine kG T O h λE w1 o t1 d st1 p r1 n1 a1 F s f u c=>?_;obtain⟨rfl,rfl⟩:d=true∧st1=1:=u.elim id λx=>by cases x.1
  obtain⟨_,b',h1,m,A⟩:=z w1 λx _=>rE f h.wz c.wz x;have g:b'.status= .running:=Goes.running (λ_ _ x=>x.1) _ (RCd.refl _) A;have e1:deafBehind 1 #[tO (stA Z)]=1:=rfl;have H:=c.tr.tail (fn:=b.frame.fn) (pos:=b.frame.place) (es:=#[tO (stA Z)]) T O (qY c.wz) (λk e I=>by
   have:k=0:=by have:=(aS.1 I).1;simp at this;omega
   subst this;simp at I;subst I;exact .inr ⟨⟨0,false,rfl⟩,by simp[deafBehind,semEvents,tO,Bg]⟩) (λe B=>by simp at B;subst B;exact rJ xQ) (λe B=>by simp at B;subst B;exact vK xQ (qY c.wz))
  obtain⟨r2,G,C⟩:=c.work (es:=#[tO (stA Z)]) (w2:=w1) (rel':=some K) T g c.wz (λe=>by cases e) H;rw[e1]at C;exact⟨b',_,_,h1,st5 (Fin:=Fin) (ty:=ty) T O L M N K m _ _ o _ F _ b' p r2 G (jg.trans (s.trans v)) (y.trans f) A C⟩
theorem st3:∀(m:Nat) (W:Array Goroutine) (w:World) (U:Option (Nat×Nat)) (t:Trace) (q:Nat->Nat) (a b:Goroutine) (X:Bool) (S:Int) (V r n:Nat),W.size=L->mM Z M w->(X=true->S=KK+1)->Goes P false (RCa ty Z N) DC0 (Go.ConcX.AtD1 P ty Z N) m b w->
 PA P ty Z j Fin Y X S V 1 r n (some K) W w t a b q->Reaches P W w U t (Joined P ty Z Fin Y L M):=by
 intro m;induction m with
 |zero=>exact λW w U t q a b X S V r n B C p E h=>fin W w U t q a b X S V r n B C p E h
 |succ m ih=>
  intro W w U t q a b X S V r n B C p E h;rcases Goes.cases E with hs|⟨m',hm,hs⟩
  .exact fin W w U t q a b X S V r n B C p hs h
  .cases hm
   refine kG T O h λgs1 w1 s t1 f st1 u r1 n1 J q1 y d D c=>?_;have i:=Br p D;obtain⟨b',w2,es,h1,⟨rfl,rfl⟩,F⟩:=hs w1 (Ec i c d);have o:b'.status= .running:=Goes.running (λ_ _ x=>x.1) w2 (Go.ConcX.RCa.refl w2) F;obtain⟨r2,n2,h3⟩:=c.idle T o;exact⟨b',w2,#[],h1,ih _ w2 s _ q1 _ b' f st1 u r2 n2 (jg.trans (y.trans B)) (C.trans d) i F h3⟩
where
 fin (W:Array Goroutine) (w:World) (U:Option (Nat×Nat)) (t:Trace) (q:Nat->Nat) (a b:Goroutine) (X:Bool) (S:Int) (V r n:Nat) (B:W.size=L) (C:mM Z M w) (p:X=true->S=KK+1) (E:∀A,RCa ty Z N w A->Go.ConcX.AtD1 P ty Z N b A)
  (h:PA P ty Z j Fin Y X S V 1 r n (some K) W w t a b q):Reaches P W w U t (Joined P ty Z Fin Y L M):=by
  refine kG T O h λgs1 w1 s t1 f st1 u r1 n1 J q1 y d D c=>?_;have i:=Br p D;obtain⟨_,hA,hB⟩:=E w1 (Ec i c d);have e1:deafBehind 1 #[tO (stA Z),Bg (stA Z)]=1:=rfl;have G:∀v,(w1.setCell (stA Z) (.int .u64 v)).heap.size=w1.heap.size:=λv=>(mM.setCell (Wg:=Z) w1 (stA Z) (.int .u64 v) rfl).size;have z:=c.tr.tail (fn:=b.frame.fn) (pos:=b.frame.place) (es:=#[tO (stA Z),Bg (stA Z)]) T O (qY c.wz) (λk e p=>by
   have:k=0∨k=1:=by have:=(aS.1 p).1;simp at this;omega
   rcases this with rfl|rfl<;>(simp at p;subst p)
   .exact .inr ⟨⟨0,false,rfl⟩,by simp[deafBehind,semEvents,tO,Bg]⟩
   .exact .inr ⟨⟨0,true,rfl⟩,by simp[deafBehind,semEvents,tO,Bg]⟩)
   (λe H=>by simp at H;exact H.elim (λx=>x▸rJ xQ) (λx=>x▸rJ Hf)) (λe H=>by simp at H;exact H.elim (λx=>x▸vK xQ (qY c.wz)) (λx=>x▸vK Hf (qY c.wz)))
  rw[e1]at z;cases hr:f with
  |false=>
   subst hr;obtain rfl:=c.st0 rfl;obtain⟨b',h1,k,hq⟩:=hA c.wz;obtain⟨r',hjb⟩:=c.jq.toB;have ha:woken P b b' (w1.setCell (stA Z) (.int .u64 0)) J=J:=woken_run (c.jq.status.elim id λx=>by cases x.2);have hL:=(c.lv.own (g:=b) (g':=b') (w':=w1.setCell (stA Z) (.int .u64 0)) (fn:=b.frame.fn) (pos:=b.frame.place) (es:=#[tO (stA Z),Bg (stA Z)]) (.inr rfl) c.hj).aae T (Ag c.hj) (k:=k) (by rw[show Deaf _ j=1 from z.deaf1];exact hq);have I:=Ez (P:=P) (g:=b) (g':=b') (w':=w1.setCell (stA Z) (.int .u64 0)) T c.h0;rw[ha]at I;exact⟨b',_,_,h1,JC T O K L M r' _ n1 _ _ s _ (ConcN.upd q1 j k) J u 1 0 (ah _) (jg.trans (y.trans B)) ((C.trans d).trans (.setCell w1 (stA Z) _ rfl)) hjb I hL (Go.ConcX.WgAt.setSt c.wz 0) (by rw[G];exact z)⟩
  |true=>
   subst hr;obtain rfl:=i rfl;obtain⟨b',h1,m,F⟩:=hB c.wz;have o:b'.status= .running:=Goes.running (λ_ _ x=>x.1) _ (RCd.refl _) F;obtain⟨r2,n2,h3⟩:=c.work (es:=#[tO (stA Z),Bg (stA Z)]) (rel':=some K) T o (Go.ConcX.WgAt.setSt c.wz 1) (λe=>by cases e) (by rw[G,e1];exact z);rw[e1]at h3;exact⟨b',_,_,h1,st4 (Fin:=Fin) (ty:=ty) T O L M N K m _ _ s _ q1 _ b' u r2 n2 (jg.trans (y.trans B)) ((C.trans d).trans (.setCell w1 (stA Z) _ rfl)) F h3⟩
theorem st2:∀(m:Nat) (W:Array Goroutine) (w:World) (U:Option (Nat×Nat)) (t:Trace) (q:Nat->Nat) (a b:Goroutine) (X:Bool) (S:Int) (V r n:Nat),W.size=L->mM Z M w->(X=true->S=KK+1)->Goes P false (RCa ty Z N) DC0 (Go.ConcX.AtK1 P ty Z N) m b w->
 PA P ty Z j Fin Y X S V 0 r n (some K) W w t a b q->Reaches P W w U t (Joined P ty Z Fin Y L M):=by
 intro m;induction m with
 |zero=>exact λW w U t q a b X S V r n z A o B h=>fin W w U t q a b X S V r n z A o B h
 |succ m ih=>
  intro W w U t q a b X S V r n z A o B h;rcases Goes.cases B with F|⟨m',hm,F⟩
  .exact fin W w U t q a b X S V r n z A o F h
  .cases hm
   refine kG T O h λG w1 s t1 d st1 u r1 n1 a1 H v f y c=>?_;have g:=Br o y;obtain⟨b',w2,es,h1,⟨rfl,rfl⟩,C⟩:=F w1 (Ec g c f);have i:b'.status= .running:=Goes.running (λ_ _ x=>x.1) w2 (Go.ConcX.RCa.refl w2) C;obtain⟨r2,I,E⟩:=c.idle T i;exact⟨b',w2,#[],h1,ih _ w2 s _ H _ b' d st1 u r2 I (jg.trans (v.trans z)) (A.trans f) g C E⟩
where
 fin (W:Array Goroutine) (w:World) (U:Option (Nat×Nat)) (t:Trace) (q:Nat->Nat) (a b:Goroutine) (X:Bool) (S:Int) (V r n:Nat) (z:W.size=L) (A:mM Z M w) (o:X=true->S=KK+1) (B:∀p,RCa ty Z N w p->Go.ConcX.AtK1 P ty Z N b p)
  (h:PA P ty Z j Fin Y X S V 0 r n (some K) W w t a b q):Reaches P W w U t (Joined P ty Z Fin Y L M):=by
  refine kG T O h λG w1 s t1 d st1 u r1 n1 a1 H v f y c=>?_;have g:=Br o y;obtain⟨_,b',h1,m,C⟩:=B w1 (Ec g c f);have i:b'.status= .running:=Goes.running (λ_ _ x=>x.1) _ (Go.ConcX.RCa.refl _) C;have e1:deafBehind 0 #[qV .disable]=1:=rfl;have J:=c.tr.tail (fn:=b.frame.fn) (pos:=b.frame.place) (es:=#[qV .disable]) T O (qY c.wz) (λk e o=>by
   have:k=0:=by have:=(aS.1 o).1;simp at this;omega
   subst this;simp at o;subst o;exact .inl rfl) (λe D=>by simp at D;subst D;simp[qV]) (λe D=>by simp at D;subst D;trivial)
  obtain⟨r2,I,E⟩:=c.work (es:=#[qV .disable]) (w2:=w1) (rel':=some K) T i c.wz c.st0 J;rw[e1]at E;exact⟨b',_,_,h1,st3 (Fin:=Fin) (ty:=ty) T O L M N K m _ _ s _ H _ b' d st1 u r2 I (jg.trans (v.trans z)) (A.trans f) g C E⟩
end
end
end
section
open Go.Conc
open Go.ConcX (WgAt wgBlock stA smA KK OfWg RCa RCd DC0 KCa Full Payload Shy DCs EvQ)
open Go.ConcN (sumTo sumTo_upd upd_same)
variable{pl:Payload}{vals:List Value}
structure Bd(Wg C:Nat)(w w':World):Prop where
 size:w'.heap.size=w.heap.size
 block:∀b,b≠Wg->b≠C->w'.heap[b]? =w.heap[b]?
 os:w'.os=w.os
 tape:w'.tape=w.tape
 output:w'.output=w.output
theorem mM.toC{Wg:Nat}{w w':World}(h:mM Wg w w')(C:Nat):Bd Wg C w w':=⟨h.size,λb h1 _=>h.block b h1,h.os,h.tape,h.output⟩
theorem Bd.trans{Wg C:Nat}{a b c:World}(h:Bd Wg C a b)(h':Bd Wg C b c):Bd Wg C a c:=
 ⟨h'.size.trans h.size,λx h1 d=>(h'.block x h1 d).trans (h.block x h1 d),h'.os.trans h.os,h'.tape.trans h.tape,h'.output.trans h.output⟩
theorem Le{C:Nat}{w:World}(h:Full C vals w):w.heap[C]? =some (.cells vals.toArray Payload.ety):=h rfl
theorem Bd.toJ{Wg C:Nat}{w w':World}(h:Bd Wg C w w')(e:Full C vals w)(c:Full C vals w'):mM Wg w w':=
 ⟨h.size,λb h1=>by
  by_cases d:b=C
  .subst d;exact(Le c).trans (Le e).symm
  .exact h.block b h1 d,h.os,h.tape,h.output⟩
@[reducible] def strict(Wg C B:Nat)(d:Wg<B)(e:C<B):Shy Wg C where
 ok act:=(∀x,act.touch? =some x->∃a,x.loc= .cell a∧(a.block=Wg∨a.block=C))∧act.low B
 atomicWg a wr h:=⟨λx c=>by simp only[MemAct.touch?,bM]at c;subst c;exact⟨a,rfl,.inl h⟩,by show a.block<B;omega⟩
 readWg a h:=⟨λx c=>by simp only[MemAct.touch?,bM]at c;subst c;exact⟨a,rfl,.inl h⟩,by show a.block<B;omega⟩
 writeWg a h:=⟨λx c=>by simp only[MemAct.touch?,bM]at c;subst c;exact⟨a,rfl,.inl h⟩,by show a.block<B;omega⟩
 theirs a wr h:=⟨λx c=>by simp only[MemAct.touch?,bM]at c;subst c;exact⟨a,rfl,.inr h⟩,by show a.block<B;omega⟩
 disable:=⟨λx c=>(by cases c),trivial⟩
 enable:=⟨λx c=>(by cases c),trivial⟩
 relMerge:=⟨λx c=>(by cases c),d⟩
 acquire:=⟨λx c=>(by cases c),d⟩
 go1:=⟨λx c=>(by cases c),trivial⟩
 start:=⟨λx c=>(by cases c),trivial⟩
 stop _ _:=True
def QL(P:Program)(ty:TypeId)(Wg:Nat)(K:Ctx)(b:Goroutine)(w:World):Prop:=
 b.status= .running∧∃(pl:Payload) (C:Nat) (c:List Value),C≠Wg∧¬K.fz C∧K.own C∧Full C c w∧
  ∀(e:Shy Wg C) (d:Loc->Prop),KCa ty Wg w->∃m,Goes P false (RCa ty Wg w.heap.size) (DCs d Wg C) (Go.ConcX.AtR0 P ty Wg C w.heap.size c) m b w
section
variable{P:Program}{V:TypeId}{X j:Nat}{Fin:Goroutine->Prop}{Z:Loc->Prop}{Y:Bool}{U:Int}{S d1 r n:Nat}{R:Option Nat}{W:Array Goroutine}{w:World}{T:Option (Nat×Nat)}{t:Trace}{a b:Goroutine}{q:Nat->Nat}
section
variable(Q:j≠0)(O:∀l,Z l->¬OfWg X l)(M:Nat)(N:World)
include Q O
theorem st1[pl:Payload]{C:Nat}(hCW:C≠X){d:Nat}(hW:X<d)(hC:C<d)(J:N.heap.size=d)(hCS:∀x:Addr,x.block=C->¬Z (.cell x)){f:List Value}(hF0:Full C f N){K:Loc->Prop}:
 ∀(m:Nat) (W:Array Goroutine) (w:World) (T:Option (Nat×Nat)) (t:Trace) (q:Nat->Nat) (a b:Goroutine) (Y:Bool) (U:Int) (S r n:Nat),W.size=M->Bd X C N w->(Y=true->U=KK+1)->
  Goes P false (RCa V X d) (@DCs K X C (strict X C d hW hC)) (@Go.ConcX.AtR0 pl P V X C d f) m b w->
  PA P V X j Fin Z Y U S 0 r n none W w t a b q->Reaches P W w T t (Joined P V X Fin Z M N):=by
 intro m;induction m with
 |zero=>exact λW w T t q a b Y U S r n F G H L h=>fin W w T t q a b Y U S r n F G H L h
 |succ m ih=>
  intro W w T t q a b Y U S r n F G H L h;rcases Goes.cases L with hs|⟨m',hm,hs⟩
  .exact fin W w T t q a b Y U S r n F G H hs h
  .cases hm
   refine kG Q O h λgs1 w1 s t1 g st1 u r1 n1 a1 q1 v i A c=>?_;have k:=Br H A;obtain⟨b',w2,es,h1,⟨B,hE⟩,h2⟩:=hs w1 (Ec k c i);have hR2:Bd X C N w2:=(G.trans (i.toC C)).trans ⟨B.size,λx _ hx=>B.block x hx,B.os,B.tape,B.output⟩;have o:b'.status= .running:=Goes.running (λ_ _ x=>x.1) w2 (Go.ConcX.RCa.refl w2) h2;have hd:deafBehind 0 es=0:=om (λe I=>⟨(hE e I).2.1,(hE e I).2.2.1⟩) 0;have hg:WgAt V X w2 st1 0:=(B.block X (Ne.symm hCW)).trans c.wz;have D:=c.tr.worker (fn:=b.frame.fn) (pos:=b.frame.place) (B':=w2.heap.size) Q (by rw[B.size];exact ah _) O (es:=es) (λe I x hx=>by
    obtain ⟨_, hf, _, hok⟩ := (hE e I).1 0 "";obtain⟨_,hx1,hx2⟩:=hf x hx;obtain⟨y,hy,hyb⟩:=hok.1 x hx;by_cases E:y.block=X
    .have ho:OfWg X x.loc:=⟨y,hy,E⟩
     obtain⟨hp,hs⟩:=hx1 (.inl ho);refine .inr ⟨ho,?_⟩;cases hkx:x.kind with
     |atomic=>rfl
     |plain=>exact aP hkx hp
     |said=>exact aP (hs hkx) (by omega)
    .have hyc:y.block=C:=hyb.resolve_left E
     exact .inl ⟨by rw[hy];exact hCS y hyc,λ⟨z,hz,hzb⟩=>by rw[hy]at hz;cases hz;exact E hzb⟩) (λe I=>by
    have := ((hE e I).1 0 "").2.2.2.2;rw[show w2.heap.size=d by rw[hR2.size,J]];exact this) (rel':=none) (λr hr=>by cases hr)
   obtain⟨r2,n2,h3⟩:=c.work (rel':=none) Q o hg c.st0 D;rw[hd]at h3;exact⟨b',w2,es,h1,ih _ w2 s _ q1 _ b' g st1 u r2 n2 (jg.trans (v.trans F)) hR2 k h2 h3⟩
where
 fin (W:Array Goroutine) (w:World) (T:Option (Nat×Nat)) (t:Trace) (q:Nat->Nat) (a b:Goroutine) (Y:Bool) (U:Int) (S r n:Nat) (F:W.size=M) (G:Bd X C N w) (H:Y=true->U=KK+1)
  (L:∀p,RCa V X d w p->@Go.ConcX.AtR0 pl P V X C d f b p) (h:PA P V X j Fin Z Y U S 0 r n none W w t a b q):Reaches P W w T t (Joined P V X Fin Z M N):=by
  refine kG Q O h λgs1 w1 s t1 g st1 u r1 n1 a1 q1 v i A c=>?_;have k:=Br H A;obtain⟨_,hF,b',h1,m,h2⟩:=L w1 (Ec k c i);have o:b'.status= .running:=Goes.running (λ_ _ x=>x.1) _ (Go.ConcX.RCa.refl _) h2;have D:=c.tr.release (fn:=b.frame.fn) (pos:=b.frame.place) Q O (qY c.wz);obtain⟨r2,n2,h3⟩:=c.work (es:=#[qV (.releaseMerge (stA X))]) (w2:=w1) (rel':=some t1.size) Q o c.wz c.st0 D;exact⟨b',_,_,h1,st2 (Fin:=Fin) (ty:=V) Q O M N d t1.size m _ _ s _ q1 _ b' g st1 u r2 n2 (jg.trans (v.trans F)) ((G.trans (i.toC C)).toJ hF0 hF) k h2 h3⟩
end
def Z7(P:Program)(V:TypeId)(X:Nat)(Fin:Goroutine->Prop)(Z:Loc->Prop)(N:Nat)(Stop:Nat->Goroutine->World->Prop):Array Goroutine->World->Option (Nat×Nat)->Trace->Prop:=λW w T t=>
 ∃b ws,Stop 0 b ws∧Joined P V X Fin Z N ws W w T t
theorem st0(hj0:j≠0)(hSW:∀l,Z l->¬OfWg X l){K:Ctx}(J:QJ K Z)(k:¬K.own X)(A:¬K.fz X)(N0:Nat){Stop:Nat->Goroutine->World->Prop}(i:∀d b w,Stop d b w->d=0∧QL P V X K b w)
 {d:Nat}{b:Goroutine}{w:World}(o:Walk P false K Stop d b w):∀(W:Array Goroutine) (T:Option (Nat×Nat)) (t:Trace) (q:Nat->Nat) (a:Goroutine) (Y:Bool) (U:Int) (S r n:Nat) (c:World),jW K w c->W.size=N0->(Y=true->U=KK+1)->
  PA P V X j Fin Z Y U S d r n none W c t a b q->Reaches P W c T t (Z7 P V X Fin Z N0 Stop):=by
 have B:∀{w c:World},mM X w c->jW K w c:=λh=>⟨h.size,λx _ p=>h.block x λe=>k (e▸p),λx p=>h.block x (λe=>A (e▸p)),h.os,h.tape,h.output⟩;induction o with
 |@stop d b w h=>
  intro W T t q a Y U S r n c hr L G f;have hS:=h c hr;obtain⟨rfl,D,pl,C,vals,M,N,O,hF,Q⟩:=i _ _ _ hS;have hC:C<c.heap.size:=(aS.1 (Le hF)).1;have hW:=qY f.wz;have hK:KCa V X c:=by
   cases hr:Y with
   |false=>left;rw[← f.st0 hr];exact f.wz
   |true=>right;rw[← G hr];exact f.wz
  obtain⟨m,Q⟩:=Q (strict X C _ hW hC) (λ_=>True) hK;refine Reaches.then (st1 (Fin:=Fin) hj0 hSW N0 c M hW hC rfl (λx p H=>(J _ C H (by simp[yc,p])).1 ⟨N,O⟩) hF m W c T t q a b Y U S r n L ((mM.refl c).toC C) G Q f) ?_;exact λW w T t hJ=> .here ⟨b,c,hS,hJ⟩
 |@step d b w g' w' es D hst hw ih=>
  intro W T t q a Y U S r n c hr L G f;refine kG hj0 hSW f λgs1 w2 sl1 t1 E st1 d01 r1 n1 a1 q1 hN1 hR1 hrs f=>?_;have hk1:=Br G hrs;have s:jW K w w2:=hr.trans (B hR1);obtain⟨h1,I⟩:=hst w2 s;have hg:WgAt V X (w' w2) st1 0:=(I.kept X (qY f.wz) (λx=>k x.2)).trans f.wz;have u:(g' w2).status= .running:=by
   cases hw w2 s with
   |stop h=>exact(i _ _ _ (h _ (jW.refl _))).2.1
   |step _ _ _ h=>exact h
  have hP':=f.tr.worker (fn:=b.frame.fn) (pos:=b.frame.place) (B':=(w' w2).heap.size) hj0 I.size hSW (es:=es w2) (λe he x p=>by
   obtain⟨y,v,g,_⟩:=xq (I.evs e he) p;refine .inl ⟨λH=>g.elim (J _ y H v).1 (J _ y H v).2,λ⟨z,hz,F⟩=>?_⟩;rw[hz]at v;simp only[yc,bM]at v;rcases g with g|g
   .exact k (by rw[← F,v];exact g.2)
   .exact A (by rw[← F,v];exact g.2)) (λe he=>CS (I.evs e he)) (rel':=none) (λr hr=>by cases hr)
  obtain⟨r2,n2,h3⟩:=f.work (rel':=none) hj0 u hg f.st0 hP';exact⟨g' w2,w' w2,es w2,h1,ih w2 s _ sl1 _ q1 _ E st1 d01 r2 n2 (w' w2) (jW.refl _) (jg.trans (hN1.trans L)) hk1 h3⟩
end
end
section
open Go.Conc (G)
variable{d j n n':Nat}{w:World}
structure OS where
 f:AF
 k:List (AF×Option Tmp)
 h:AH
noncomputable def aa4(f:AF)(d:Option Tmp)(v:AV):AF:=match f with |⟨x,tm,td,ds,_⟩=>⟨x,fin x d v tm,td,ds,false⟩
def zq(ops:Array Oper):Nat->Array Bool->List (List Nat)
 |0,_=>[[]]
 |n+1,listed=>match Region.ready .any ops listed with
  |[]=>[[]]
  |i::l=>(i::l).flatMap λi=>(zq ops n (listed.setIfInBounds i true)).map (i::·)
def Cv(ops:Array Oper)(n:Nat):Array Bool:=(Array.range ops.size).map λi=>decide (i<n)
def abz(ops:Array Oper)(n:Nat):List (List Nat):=zq ops ops.size (Cv ops n)
noncomputable def yQ(E:Env)(x:AX)(ops:Array Oper)(h:AH):List Nat->Tr AV->Tr AV×List Nat
 |[],tm=>(tm,[])
 |i::l,tm=>match ops[i]? with
  |none=>(tm,i::l)
  |some o=>match eX o ops tm with
   |none=>(tm,i::l)
   |some false=>yQ E x ops h l (fin x o.dst gH tm)
   |some true=>match fA o.op E tm h with
    |some v=>yQ E x ops h l (fin x o.dst v tm)
    |none=>(tm,i::l)
noncomputable def GI(E:Env)(x:AX)(ops:Array Oper):List Nat->Tr AV->AH->Option (Tr AV×AH)
 |[],tm,h=>some (tm,h)
 |i::l,tm,h=>match ops[i]? with
  |none=>none
  |some o=>match eX o ops tm with
   |none=>none
   |some false=>GI E x ops l (fin x o.dst gH tm) h
   |some true=>match fA o.op E tm h with
    |some v=>GI E x ops l (fin x o.dst v tm) h
    |none=>match fV o.op E tm h with
     |some (.val v h')=>GI E x ops l (fin x o.dst v tm) h'
     |_=>none
mutual
def AV.eqv:AV->AV->Bool
 | .any,.any=>true
 | .one,.one=>true
 | .bool a,.bool b=>a==b
 | .int k a,.int j b=>k==j&&a==b
 | .str a,.str b=>a==b
 | .nQ,.nQ=>true
 | .ptr a b,.ptr c d=>Nat.beq a c&&Nat.beq b d
 | .aM,.aM=>true
 | .emp,.emp=>true
 | .sl a b c d,.sl x y z u=>Nat.beq a x&&Nat.beq b y&&Nat.beq c z&&d==u
 | .nT,.nT=>true
 | .map a,.map b=>Nat.beq a b
 | .sD,.sD=>true
 | .fn f a b,.fn g c d=>Nat.beq f g&&AV.PY a c&&AV.PY b d
 | .yield a,.yield b=>Nat.beq a b
 | .kH,.kH=>true
 | .iface t a,.iface u b=>Nat.beq t u&&AV.eqv a b
 | .agg a,.agg b=>AV.PY a b
 | .bV a,.bV b=>AV.PY a b
 |_,_=>false
def AV.PY:List AV->List AV->Bool
 |[],[]=>true
 |a::l,b::m=>AV.eqv a b&&AV.PY l m
 |_,_=>false
end
def Tr.eqv:Tr AV->Tr AV->Bool
 | .e,.e=>true
 | .n l v r,.n c d f=>Tr.eqv l c&&(match v,d with |none,none=>true|some a,some b=>AV.eqv a b|_,_=>false)&&Tr.eqv r f
 |_,_=>false
def Rx:List Nat->List Nat->Bool
 |[],[]=>true
 |a::l,b::m=>Nat.beq a b&&Rx l m
 |_,_=>false
noncomputable def aaY(E:Env)(x:AX)(ops:Array Oper)(n:Nat)(tm:Tr AV)(h:AH):Option (Tr AV×AH):=
 match abz ops n with
 |[]=>none
 |a::b=>cond (b.all λl=>Rx (yQ E x ops h l tm).2 (yQ E x ops h a tm).2&&Tr.eqv (yQ E x ops h l tm).1 (yQ E x ops h a tm).1) (GI E x ops (yQ E x ops h a tm).2 (yQ E x ops h a tm).1 h) none
def ads(out:List FuncId)(ops:Array Oper):Option Nat:=
 ops.toList.findIdx? λo=>match o.op with | .call c=>(match c.callee with | .value (.func g)=>out.any (Nat.beq g)|_=>false)|_=>false
def aeD(ops:Array Oper)(b:Array Nat)(j:Nat):Bool:=
 (List.range ops.size).all λi=>cond (Nat.blt i j) true ((List.range (cond (Nat.beq i j) j (j+1))).all λp=>(b.getD i 0).testBit p)
noncomputable def aai(E:Env)(r:mV)(out:List FuncId)(j:Nat)(x:AX)(tm:Tr AV)(ops:Array Oper)(k0:List AI)(ds:List AD)(k:List (AF×Option Tmp))(h:AH):Option OS:=
 cond (aeD ops (Region.before ops) j) (match wQ E (λ_=>outs E r) x (Region.before ops) ops h (ops.toList.take j) 0 tm [] [] [] h,ops[j]? with
  |some p,some o=>(match eX o ops p.1,fV o.op E p.1 p.2 with
   |some true,some (.call g args)=>cond (out.any (Nat.beq g)) (match iW E g args false with |some a=>some ⟨a,(⟨x,p.1,.rT ops (j+1)::k0,ds,false⟩,o.dst)::k,p.2⟩|none=>none) none
   |_,_=>none)
  |_,_=>none) none
noncomputable def Mq(E:Env)(r:mV)(out:List FuncId)(s:OS):Option OS:=
 match s with
 |⟨f,k,h⟩=>match iw E f h with
  |some (.go f' h')=>some ⟨f',k,h'⟩
  |some (.call f' d g args h')=>cond (out.any (Nat.beq g))
   (match iW E g args false with |some a=>some ⟨a,(f',d)::k,h'⟩|none=>none)
   (match Au E r g args false h' with |some p=>some ⟨aa4 f' d p.1,k,p.2⟩|none=>none)
  |some (.dcall f' g args h')=>cond (out.any (Nat.beq g)) none (match Au E r g args true h' with |some p=>some ⟨f',k,p.2⟩|none=>none)
  |some (.drawn x tm ops k0 ds h')=>cond (yu ops.toList (Region.before ops) ops) (match ads out ops with
   |some j=>aai E r out j x tm ops k0 ds k h'
   |none=>(match wQ E (λ_=>outs E r) x (Region.before ops) ops h' ops.toList 0 tm [] [] [] h' with
    |some p=>some ⟨⟨x,p.1,k0,ds,false⟩,k,p.2⟩
    |none=>none)) none
  |some (.ret v h')=>(match k with
   |(f',d)::k'=>cond f.x.deferred none (some ⟨aa4 f' d v,k',h'⟩)
   |[]=>none)
  |none=>(match f with
   |⟨x,tm,.rT ops n::k0,ds,false⟩=>(match aaY E x ops n tm h with
    |some p=>some ⟨⟨x,p.1,k0,ds,false⟩,k,p.2⟩
    |none=>none)
   |_=>none)
  |_=>none
mutual
theorem AV.BG:∀{a b:AV},AV.eqv a b=true->a=b
 | .any,.any,_=>rfl
 | .one,.one,_=>rfl
 | .bool a,.bool b,h=>by simp[AV.eqv]at h;rw[h]
 | .int k a,.int j b,h=>by
   simp only[AV.eqv,av]at h;have h1:k=j:=by have:=h.1;revert this;cases k<;>cases j<;>first|(intro _;rfl)|(intro h;cases h)
   have e:a=b:=by simpa using h.2
   rw[h1,e]
 | .str a,.str b,h=>by simp[AV.eqv]at h;rw[h]
 | .nQ,.nQ,_=>rfl
 | .ptr a b,.ptr c d,h=>by
   simp only[AV.eqv,av]at h;rw[ak h.1,ak h.2]
 | .aM,.aM,_=>rfl
 | .emp,.emp,_=>rfl
 | .sl a b c d,.sl x y z u,h=>by
   simp only[AV.eqv,av]at h;rw[ak h.1.1.1,ak h.1.1.2,ak h.1.2,show d=u by simpa using h.2]
 | .nT,.nT,_=>rfl
 | .map a,.map b,h=>by simp only[AV.eqv]at h;rw[ak h]
 | .sD,.sD,_=>rfl
 | .fn f a b,.fn g c d,h=>by
   simp only[AV.eqv,av]at h;rw[ak h.1.1,AV.CU h.1.2,AV.CU h.2]
 | .yield a,.yield b,h=>by simp only[AV.eqv]at h;rw[ak h]
 | .kH,.kH,_=>rfl
 | .iface t a,.iface u b,h=>by
   simp only[AV.eqv,av]at h;rw[ak h.1,AV.BG h.2]
 | .agg a,.agg b,h=>by simp only[AV.eqv]at h;rw[AV.CU h]
 | .bV a,.bV b,h=>by simp only[AV.eqv]at h;rw[AV.CU h]
theorem AV.CU:∀{a b:List AV},AV.PY a b=true->a=b
 |[],[],_=>rfl
 |a::l,b::m,h=>by
  simp only[AV.PY,av]at h;rw[AV.BG h.1,AV.CU h.2]
end
theorem Tr.BG:∀{a b:Tr AV},Tr.eqv a b=true->a=b
 | .e,.e,_=>rfl
 | .n l v r,.n f d g,h=>by
   simp only[Tr.eqv,av]at h;rw[Tr.BG h.1.1,Tr.BG h.2];have c:=h.1.2;cases v with
   |none=>cases d with
    |none=>rfl
    |some b=>cases c
   |some a=>cases d with
    |none=>cases c
    |some b=>rw[AV.BG c]
theorem M4:∀{a b:List Nat},Rx a b=true->a=b
 |[],[],_=>rfl
 |a::l,b::m,h=>by
  simp only[Rx,av]at h;rw[ak h.1,M4 h.2]
theorem Qi{ops:Array Oper}:∀(b t:Nat) (listed:Array Bool) (F:Nat),listed.size=ops.size->left' ops.size listed<=b->left' ops.size listed<=F->Region.linearise.go .any ops b t listed []∈zq ops F listed:=by
 intro b;induction b with
 |zero=>
  intro t listed F c e _;have hr:Region.ready .any ops listed=[]:=by
   cases hr:Region.ready .any ops listed with
   |nil=>rfl
   |cons i l=>
    obtain⟨h1,d,_⟩:=(mem_ready c (i:=i)).1 (by rw[hr];simp);have:i∈(List.range ops.size).filter λi=>Dl listed i==false:=fB.2 ⟨cZ.2 h1,by rw[d];rfl⟩;have:=List.length_pos_of_mem this;unfold left' at e;omega
  have:Region.linearise.go .any ops 0 t listed []=[]:=rfl;rw[this];cases F with
  |zero=>simp[zq]
  |succ F=>unfold zq;rw[hr];simp
 |succ b g=>
  intro t listed F c e m;rcases CB ops b t listed with⟨h1,d⟩|⟨i,h1,d⟩
  .rw[d]
   cases F with
   |zero=>simp[zq]
   |succ F=>unfold zq;rw[h1];simp
  .rw[d]
   obtain⟨h,j,_⟩:=(mem_ready c).1 h1;have k:=G8 h c j;cases F with
   |zero=>omega
   |succ F=>
    unfold zq;have f:=g (t / (Region.ready .any ops listed).length) (listed.setIfInBounds i true) F (by simp[c]) (by omega) (by omega);cases hr:Region.ready .any ops listed with
    |nil=>rw[hr]at h1;simp at h1
    |cons a l=>
     simp only;rw[hr]at h1 f;exact oQ.2 ⟨i,h1,bP.2 ⟨_,f,rfl⟩⟩
theorem Wh{ops:Array Oper}{a:List Nat}(h:Left ops n a):a∈abz ops n:=by
 obtain⟨b,t,listed,d,f,g,rfl⟩:=h;have e:listed=Cv ops n:=by
  apply Array.ext
  .simp[Cv,d]
  .intro i h1 j
   have:=g i;unfold Dl at this;rw[bf,bX h1]at this;simp only[oM]at this;rw[this];simp[Cv]
 have c:left' ops.size listed<=ops.size:=by
  unfold left';exact aQ (List.length_filter_le _ _) (by simp)
 unfold abz;rw[← e];exact Qi b t listed ops.size d f c
theorem Ua{ops:Array Oper}(R:mH ops)(hj:j<ops.size)(f:∀i,j<i->i<ops.size->Bf ops i j){c:List Nat}(h:Left ops j c):∃b,c=j::b∧Left ops (j+1) b:=by
 obtain⟨a,t,listed,g,m,n,rfl⟩:=h;have k:Dl listed j=false:=by rw[n j];simp
 cases a with
 |zero=>
  have:j∈(List.range ops.size).filter λi=>Dl listed i==false:=fB.2 ⟨cZ.2 hj,by rw[k];rfl⟩;have:=List.length_pos_of_mem this;unfold left' at m;omega
 |succ a=>
  rcases CB ops a t listed with⟨h1,u⟩|⟨i,h1,u⟩
  .have:=Il R g h1 j hj
   rw[k]at this;cases this
  .obtain⟨q,r,o,v,w⟩:=(mem_ready g).1 h1
   have hi:i=j:=by
    rcases Nat.lt_trichotomy i j with h|h|h
    .rw[n i]at r;simp at r;omega
    .exact h
    .have y:=f i h q
     obtain⟨e,z,s,p⟩:=zo v y;have d:=w e z s;rw[n]at d;have d:=bZ d;rcases p with p|⟨_,p⟩
     .omega
     .have:=Am R e.on j p;omega
   subst hi;refine⟨_,u,a,_,listed.setIfInBounds i true,by simp[g],by have:=G8 q g r;omega,λl=>?_,rfl⟩;rw[QI (by rw[g];exact q)];unfold vg;rw[n l];by_cases m:l=i
   .subst m;simp
   .have:(l==i)=false:=by simp[m]
    rw[this,Bool.or_false];by_cases h:l<i
    .simp[h];omega
    .simp[h];omega
def RSo(ι:Nm):List (AF×Option Tmp)->List Frame->Prop
 |[],a=>a=[]
 |(f,d)::k,a=>∃fr r,a=fr::r∧Waits ι f d fr∧RSo ι k r
def Bare(ι:Nm)(n:Nat):Prop:=∀i,n<=i->i<OLD->ι i=none
def OAt(K:Ctx)(ι0:Nm)(cs:List Frame)(s:OS)(d:Nat)(g:Goroutine)(w:World):Prop:=
 ∃ι fr a,g=G fr (a++cs)∧Bare ι s.h.nx∧RF ι s.f fr∧RSo ι s.k a∧Sat K ι s.h w∧d=s.h.df∧Ext ι0 ι
theorem Bare.free{ι:Nm}{n m:Nat}(h:Bare ι n)(a:m<=OLD):Free ι n m:=λi hi hj=>h i hi (by omega)
theorem Bare.grow{ι ι':Nm}(h:Bare ι n)(g:Grow ι ι' n n'):Bare ι' n':=λi hi hj=>by rw[g.same i (.inr hi)];exact h i (by have:=g.le;omega) hj
theorem RSo.mono{ι ι':Nm}(e:Ext ι ι'):∀{k:List (AF×Option Tmp)} {a:List Frame},RSo ι k a->RSo ι' k a
 |[],_,h=>h
 |(f,d)::k,a,⟨fr,r,h1,g,j⟩=>⟨fr,r,h1,λb v u c l=>g b v u (λi p hp=>c i p (e i p hp)) l,j.mono e⟩
section
variable{P:Program}{main:Bool}{K:Ctx}{Z:Nm}{E:Env}{cs:List Frame}{out:List FuncId}
section
variable{x:AX}{Y:Array Oper}{V:List AD}{X:List Item}
theorem Rh(F:Fits P E)(q:Of K P E):∀(l:List Nat) (tm:Tr AV) {ι:Nm} {h:AH} {w:World} {fr:Frame},Sat K ι h w->iQ ι x tm V Y l X fr->
 Walk P main K (qU K ι h.nx x (yQ E x Y h l tm).1 V Y (yQ E x Y h l tm).2 X cs h) h.df (G fr cs) w
 |[],tm,ι,h,w,fr,S,H=> .stop λa hr=>⟨ι,fr,rfl,Grow.refl _ _,S.rely hr,H,rfl⟩
 |i::l,tm,ι,h,w,fr,S,H=>by
  have n:ql ι x tm V Y i l X fr:=⟨H.fn,H.tm,H.todo,H.ds,H.mode,H.kind,H.round⟩;have still:Walk P main K (qU K ι h.nx x tm V Y (i::l) X cs h) h.df (G fr cs) w:= .stop λa hr=>⟨ι,fr,rfl,Grow.refl _ _,S.rely hr,H,rfl⟩;have next:∀{c:Tr AV},Walk P main K (qU K ι h.nx x c V Y l X cs h) h.df (G fr cs) w->Walk P main K (qU K ι h.nx x (yQ E x Y h l c).1 V Y (yQ E x Y h l c).2 X cs h) h.df (G fr cs) w:=λ{c} W=>by
   refine W.bind ?_
   rintro d g w' ⟨ι',t,rfl,u,y,z,rfl⟩
   refine(Rh F q l c y z).mono ?_
   rintro d g A ⟨f,k,rfl,B,C,D,rfl⟩
   exact⟨f,k,rfl,u.trans B,C,D,rfl⟩
  unfold yQ;cases p:Y[i]? with
  |none=>exact still
  |some o=>
   simp only;cases r:eX o Y tm with
   |none=>exact still
   |some b=>
    cases b with
    |false=>
     refine next (Walk.of rfl λa hr=>⟨_,a,#[],wN n (λJ m=>?_),iA.refl a,.stop λs e=>⟨ι,_,rfl,Grow.refl _ _,(S.rely hr).rely e,n.finish p (Ext.refl ι) kS,rfl⟩⟩)
     rw[p]at m;cases m;exact jQ H.tm r
    |true=>
     simp only;cases I:fA o.op E tm h with
     |none=>exact still
     |some v=>exact next (y7 (λa hr=>quiet_step q F (S.rely hr) n p (jQ H.tm r) I) (λj h1 L=>by omega))
theorem F5:∀(l:List Nat) (tm:Tr AV) {h:AH} {p:Tr AV×AH},GI E x Y l tm h=some p->h.nx<=p.2.nx
 |[],tm,h,p,e=>by simp only[GI,bM]at e;subst e;exact ah _
 |i::l,tm,h,p,e=>by
  unfold GI at e;cases a:Y[i]? with
  |none=>rw[a]at e;cases e
  |some o=>
   rw[a]at e;simp only at e;cases c:eX o Y tm with
   |none=>rw[c]at e;cases e
   |some b=>
    rw[c]at e;cases b with
    |false=>exact F5 l _ e
    |true=>
     simp only at e;cases d:fA o.op E tm h with
     |some v=>rw[d]at e;exact F5 l _ e
     |none=>
      rw[d]at e;simp only at e;split at e
      .rename_i v h' f
       have h1:h.nx<=h'.nx:=Ac f;exact aQ h1 (F5 l _ e)
      .cases e
theorem Ri(F:Fits P E)(t:Of K P E):∀(l:List Nat) (tm:Tr AV) {ι:Nm} {h:AH} {w:World} {fr:Frame} {p:Tr AV×AH},Sat K ι h w->Bare ι h.nx->iQ ι x tm V Y l X fr->GI E x Y l tm h=some p->p.2.nx<=OLD->
 Walk P main K (qU K ι h.nx x p.1 V Y [] X cs p.2) h.df (G fr cs) w
 |[],tm,ι,h,w,fr,p,S,u,H,e,_=>by
  simp only[GI,bM]at e;subst e;exact .stop λa hr=>⟨ι,fr,rfl,Grow.refl _ _,S.rely hr,H,rfl⟩
 |i::l,tm,ι,h,w,fr,p,S,u,H,e,z=>by
  have s:ql ι x tm V Y i l X fr:=⟨H.fn,H.tm,H.todo,H.ds,H.mode,H.kind,H.round⟩;have next:∀{c:Tr AV} {h':AH},GI E x Y l c h'=some p->Walk P main K (qU K ι h.nx x c V Y l X cs h') h.df (G fr cs) w->Walk P main K (qU K ι h.nx x p.1 V Y [] X cs p.2) h.df (G fr cs) w:=λ{c h'} C W=>by
   refine W.bind ?_
   rintro d g w' ⟨ι',D,rfl,A,I,J,rfl⟩
   refine(Ri F t l c I (u.grow A) J C z).mono ?_
   rintro d g L ⟨m,n,rfl,M,N,O,rfl⟩
   exact⟨m,n,rfl,A.trans M,N,O,rfl⟩
  unfold GI at e;cases k:Y[i]? with
  |none=>rw[k]at e;cases e
  |some o=>
   rw[k]at e;simp only at e;cases q:eX o Y tm with
   |none=>rw[q]at e;cases e
   |some b=>
    rw[q]at e;cases b with
    |false=>
     refine next e (Walk.of rfl λa hr=>⟨_,a,#[],wN s (λR r=>?_),iA.refl a,.stop λB f=>⟨ι,_,rfl,Grow.refl _ _,(S.rely hr).rely f,s.finish k (Ext.refl ι) kS,rfl⟩⟩)
     rw[k]at r;cases r;exact jQ H.tm q
    |true=>
     simp only at e;cases y:fA o.op E tm h with
     |some v=>
      rw[y]at e;exact next e (y7 (λa hr=>quiet_step t F (S.rely hr) s k (jQ H.tm q) y) (λj h1 T=>by omega))
     |none=>
      rw[y]at e;simp only at e;split at e
      .rename_i v h' Q
       exact next e (y7 (λa hr=>Cq t F (S.rely hr) s k (jQ H.tm q) Q) (u.free (aQ (F5 l _ e) z)))
      .cases e
theorem Yr(F:Fits P E)(l:Of K P E){n:Nat}{tm:Tr AV}{ι:Nm}{h:AH}{w:World}{fr:Frame}{a:List Nat}{p:Tr AV×AH}(S:Sat K ι h w)(r:Bare ι h.nx)(s:Left Y n a)(H:iQ ι x tm V Y a X fr)(e:aaY E x Y n tm h=some p)(t:p.2.nx<=OLD):
 Walk P main K (qU K ι h.nx x p.1 V Y [] X cs p.2) h.df (G fr cs) w:=by
 have j:=Wh s;unfold aaY at e;split at e
 .cases e
 .rename_i m C k
  rw[k]at j;obtain⟨c,e⟩:=iF e;rw[d9]at c;have b:(yQ E x Y h a tm).2=(yQ E x Y h m tm).2∧(yQ E x Y h a tm).1=(yQ E x Y h m tm).1:=by
   rcases ay.1 j with rfl|j
   .exact⟨rfl,rfl⟩
   .have:=c a j
    rw[av]at this;exact⟨M4 this.1,Tr.BG this.2⟩
  refine(Rh (main:=main) (cs:=cs) F l a tm S H).bind ?_
  rintro d g w' ⟨ι',u,rfl,o,v,q,rfl⟩
  rw[b.1,b.2]at q;refine(Ri F l _ _ v (r.grow o) q e t).mono ?_
  rintro d g y ⟨f,i,rfl,z,A,B,rfl⟩
  exact⟨f,i,rfl,o.trans z,A,B,rfl⟩
end
theorem Vp(F:Fits P E)(FF:dM P E)(hP:Of K P E)(n:Nat){s s':OS}(e:Mq E (qW E n) out s=some s')(U:s'.h.nx<=OLD){g:Goroutine}(H:OAt K Z cs s d g w):Walk P main K (OAt K Z cs s') d g w:=by
 obtain⟨f,k,h⟩:=s;obtain⟨ι,fr,q,rfl,M,R,HS,S,rfl,N⟩:=H;have hr:=runF_ok (P:=P) (main:=main) F FF n;have hup:mV.Up (qW E n):=Ck n;have hD:=Gi (main:=main) F FF (λ_=>F6 hr FF) (λ_=>zZ hup);unfold Mq at e;simp only at e R HS S M;cases hs:iw E f h with
 |none=>
  rw[hs]at e;simp only at e;split at e
  .rename_i x tm ops m k0 ds
   split at e
   .rename_i p hp
    cases e;obtain⟨i,k',ht,⟨rest,hl,rfl⟩,hk⟩:=R.todo;have H:iQ ι x tm ds ops rest k' fr:=⟨R.fn,R.tm,ht,R.ds,by simpa using R.mode,R.kind,R.round⟩;refine(Yr (main:=main) F hP S M hl H hp U).bind ?_
    rintro d g w' ⟨ι',D,rfl,g1,g2,V,rfl⟩
    have J:=g1.ext (M.free U);refine Walk.of rfl λz A=>?_;have ht:=V.todo;have hm:=V.mode;refine⟨G { D with todo:=k' } (q++cs),z,#[],by simp[G,stepG,hm,stepG.exec,ht],iA.refl z,.stop λB b=>?_⟩;have R2:RF ι' ⟨x,p.1,k0,ds,false⟩ { D with todo:=k' }:=⟨V.fn,V.tm,hk.mono J,V.ds,by simpa using V.mode,V.kind,V.round⟩;exact⟨ι',_,q,rfl,M.grow g1,R2,HS.mono J,(g2.rely A).rely b,rfl,N.trans J⟩
   .cases e
  .cases e
 |some a=>
  rw[hs]at e;have hx:=vX hs;refine Walk.of rfl λO hr₁=>?_;have X:=S.rely hr₁;have C:wJ P main K ι h O fr (q++cs) a:=step_ok hP F FF X R hs;cases a with
  |go f' h1=>
   cases e;have y:=M.free (m:=h1.nx) U;obtain⟨ι',D,w',es,k1,L,Y,k4,k5,k6⟩:=C y;exact⟨_,w',es,k1,k5,.stop λB b=>⟨ι',D,q,rfl,M.grow L,k4,HS.mono (L.ext y),Y.rely b,k6,N.trans (L.ext y)⟩⟩
  |ret v h1=>
   obtain⟨u,w',es,k1,L,Y,k4,k5,k6⟩:OM P main K ι h O fr (q++cs) v h1:=C;simp only at e;cases k with
   |nil=>cases e
   |cons p k=>
    obtain⟨f',d⟩:=p;simp only at e;cases hd:f.x.deferred with
    |true=>rw[hd]at e;cases e
    |false=>
     rw[hd]at e;cases e;obtain⟨fr1,r1,rfl,hw1,hs1⟩:=HS;have hk:fr.kind= .normal:=by rw[R.kind,hd];rfl
     rw[oU,rU (.inl hk) (λhx=>by rw[hk]at hx;cases hx),hk]at k1;refine⟨G (fr1.finish u) (r1++cs),w',es,by rw[oU,k1];simp[GStep.after,back],k4,.stop λB b=>⟨ι,fr1.finish u,r1,rfl,?_,?_,hs1,L.rely b,k5,N⟩⟩
     .show Bare ι h1.nx
      rw[k6];exact M
     .obtain⟨x,tm,td,ds,rt⟩:=f'
      exact hw1 ι v u (λ_ _ h=>h) Y
  |call f' d g args h1=>
   simp only at e;have hb1:h1.nx<=OLD:=by
    cases ho:out.any (Nat.beq g)with
    |true=>
     rw[ho]at e;simp only[bA]at e;split at e
     .cases e;exact U
     .cases e
    |false=>
     rw[ho]at e;simp only[bC]at e;split at e
     .rename_i p hp;cases e;exact aQ (tN hup hp) U
     .cases e
   have y:=M.free hb1;obtain⟨ι',D,vs,w',es,k1,L,Y,k4,⟨k5,k5'⟩,k6,k7⟩:=C y;cases ho:out.any (Nat.beq g)with
   |true=>
    rw[ho]at e;simp only[bA]at e;cases he:iW E g args false with
    |none=>rw[he]at e;cases e
    |some f2=>
     rw[he]at e;cases e;exact⟨_,w',es,k1,k6,.stop λB b=>⟨ι',_,D::q,rfl,M.grow L,kL FF he k4 rfl,⟨D,q,rfl,k5,HS.mono (L.ext y)⟩,Y.rely b,k7,N.trans (L.ext y)⟩⟩
   |false=>
    rw[ho]at e;simp only[bC]at e;cases hp:Au E (qW E n) g args false h1 with
    |none=>rw[hp]at e;cases e
    |some p=>
     rw[hp]at e;cases e;refine⟨_,w',es,k1,k6,?_⟩;rw[k7];have T:=M.grow L;refine(zU hr hP FF hp Y k4 rfl (λhx=>by cases hx) (T.free U)).bind ?_
     rintro d' g' w'' ⟨r,u,rfl,g1,g2,V,rfl⟩
     have J:=g1.ext (T.free U);obtain⟨x,tm,td,ds,rt⟩:=f';exact .stop λB b=>⟨r,D.finish u,q,rfl,T.grow g1,k5 r p.1 u J V,(HS.mono (L.ext y)).mono J,g2.rely b,rfl,(N.trans (L.ext y)).trans J⟩
  |dcall f' g args h1=>
   simp only at e;have hb1:h1.nx<=OLD:=by
    obtain⟨_,e⟩:=cK e;split at e
    .rename_i p hp;cases e;exact aQ (tN hup hp) U
    .cases e
   have y:=M.free hb1;obtain⟨ι',D,vs,w',es,k1,L,Y,k4,⟨k5,k5'⟩,k6,k7⟩:=C y;obtain⟨_,e⟩:=cK e;cases hp:Au E (qW E n) g args true h1 with
   |none=>rw[hp]at e;cases e
   |some p=>
    rw[hp]at e;cases e;refine⟨_,w',es,k1,k6,?_⟩;rw[k7];have T:=M.grow L;refine(zU hr hP FF hp Y k4 rfl (λ_ e l hm=>by rw[k5']at hm;cases hm) (T.free U)).bind ?_
    rintro d' g' w'' ⟨r,u,rfl,g1,g2,V,rfl⟩
    have J:=g1.ext (T.free U);exact .stop λB b=>⟨r,D,q,rfl,T.grow g1,k5.mono J,(HS.mono (L.ext y)).mono J,g2.rely b,rfl,(N.trans (L.ext y)).trans J⟩
  |drawn x tm ops k0 ds h1=>
   obtain⟨rfl,t,d,k',k1,L,Y⟩:=C;simp only at e;cases hb:yu ops.toList (Region.before ops) ops with
   |false=>rw[hb]at e;cases e
   |true=>
    rw[hb]at e;simp only[bA]at e;split at e
    .
     rename_i j hj;unfold aai at e;obtain⟨hbar,e⟩:=iF e;unfold aeD at hbar;rw[d9]at hbar;split at e
     .rename_i p o hp ho
      split at e
      .rename_i g args hw hl
       obtain⟨_,e⟩:=iF e;cases he:iW E g args false with
       |none=>rw[he]at e;cases e
       |some f2=>
        rw[he]at e;cases e;have hjs:j<ops.size:=(aS.1 ho).1;have hbars:∀i,j<=i->i<ops.size->∀l,l<(if i=j then j else j+1)->Bf ops i l:=λi h1 h2 l h3=>by
         have:=hbar i (cZ.2 h2);have hlt:Nat.blt i j=false:=by cases hb:Nat.blt i j with |false=>rfl|true=>rw[cO]at hb;omega
         rw[hlt,bC,d9]at this;refine this l (cZ.2 ?_);by_cases hij:i=j
         .rw[aH hij]at h3
          have:Nat.beq i j=true:=by rw[hij];simp
          rw[this];exact h3
         .rw[au hij]at h3
          have:Nat.beq i j=false:=by cases hb:Nat.beq i j with |false=>rfl|true=>exact aP (ak hb) hij
          rw[this];exact h3
        refine⟨_,_,#[],k1,iA.drawn O d,?_⟩;have W:=JK (main:=main) (cs:=q++cs) F FF (λ_=>F6 hr FF) (λ_=>zZ hup) (iC hjs) (λi h1 h2 l h3=>hbars i h1 h2 l (by split<;>omega)) hP (X.drawn d) Y hb hp (M.free U);refine W.bind ?_
        rintro d' g' w'' ⟨rest,hL,r,I,rfl,j1,j2,Q,rfl⟩
        have J:=j1.ext (M.free U);obtain⟨rest',rfl,hL'⟩:=Ua (ME hb) hjs (λi h1 h2=>hbars i (iC h1) h2 j (by rw[au (by omega)];omega)) hL;have hA:ql r x p.1 ds ops j rest' k' I:=⟨Q.fn,Q.tm,Q.todo,Q.ds,Q.mode,Q.kind,Q.round⟩;refine Walk.of rfl λz A=>?_;have S₃:=j2.rely A;obtain⟨c,nt,rs,ex,hg⟩:∃c nt rs ex,E.ft.get g=some ⟨some c,nt,rs,ex⟩:=by
         unfold iW at he;split at he
         .exact⟨_,_,_,_,‹_›⟩
         .cases he
        obtain⟨vs,h1,h2⟩:=El (main:=main) (cs:=q++cs) hP F FF S₃ hA ho (jQ hA.tm hw) hl hg;refine⟨_,z,#[],h2,iA.refl z,.stop λB b=>?_⟩;refine⟨r,_,I::q,rfl,M.grow j1,kL FF he h1 rfl,⟨I,q,rfl,λι3 v u hE' hv=>?_,HS.mono J⟩,S₃.rely b,rfl,N.trans J⟩;have H2:=hA.finish ho hE' hv;exact⟨H2.fn,H2.tm,⟨_,_,H2.todo,⟨rest',hL',rfl⟩,(L.mono J).mono hE'⟩,H2.ds,by simpa using H2.mode,H2.kind,H2.round⟩
      .cases e
     .cases e
    .split at e
     .rename_i p hp
      cases e;refine⟨_,_,#[],k1,iA.drawn O d,?_⟩;have W:=hD K ι { O with drawn:=d } x tm ds ops t k' _ (q++cs) h1 p.1 p.2 hP (X.drawn d) Y hb hp (M.free U);refine W.bind ?_
      rintro d' g' w'' ⟨r,I,rfl,j1,j2,Q,rfl⟩
      have J:=j1.ext (M.free U);refine Walk.of rfl λz A=>?_;have ht:=Q.todo;have hm:=Q.mode;refine⟨G { I with todo:=k' } (q++cs),z,#[],by simp[G,stepG,hm,stepG.exec,ht],iA.refl z,.stop λB b=>?_⟩;have R2:RF r ⟨x,p.1,k0,ds,false⟩ { I with todo:=k' }:=⟨Q.fn,Q.tm,L.mono J,Q.ds,by simpa using Q.mode,Q.kind,Q.round⟩;exact⟨r,_,q,rfl,M.grow j1,R2,HS.mono J,(j2.rely A).rely b,rfl,N.trans J⟩
     .cases e
  |_=>cases e
noncomputable def Cj(E:Env)(r:mV)(out:List FuncId)(n:Nat):OS->OS:=
 @Nat.rec (λ_=>OS->OS) (λs=>s) (λ_ b s=>match Mq E r out s with |some a=>cond (Nat.ble a.h.nx OLD) (b a) s|none=>s) n
theorem Kv(F:Fits P E)(FF:dM P E)(p:Of K P E)(n:Nat):∀(m:Nat) (s:OS) {d:Nat} {g:Goroutine} {w:World},OAt K Z cs s d g w->Walk P main K (OAt K Z cs (Cj E (qW E n) out m s)) d g w
 |0,s,d,g,w,H=> .stop λb hr=>by
  obtain⟨ι,fr,a,h1,c,f,i,j,k,l⟩:=H;exact⟨ι,fr,a,h1,c,f,i,j.rely hr,k,l⟩
 |m+1,s,d,g,w,H=>by
  have e:Cj E (qW E n) out (m+1) s=(match Mq E (qW E n) out s with |some o=>cond (Nat.ble o.h.nx OLD) (Cj E (qW E n) out m o) s|none=>s):=rfl;rw[e];cases q:Mq E (qW E n) out s with
  |none=>
   refine .stop λb hr=>?_;obtain⟨ι,fr,a,h1,c,f,i,j,k,l⟩:=H;exact⟨ι,fr,a,h1,c,f,i,j.rely hr,k,l⟩
  |some o=>
   simp only;cases r:Nat.ble o.h.nx OLD with
   |true=>exact(Vp F FF p n q (aF r) H).bind λu g' w' t=>Kv F FF p n m o t
   |false=>
    refine .stop λb hr=>?_;obtain⟨ι,fr,a,h1,c,f,i,j,k,l⟩:=H;exact⟨ι,fr,a,h1,c,f,i,j.rely hr,k,l⟩
end
end
section
open Go.Conc
open Go.ConcX (WgAt wgBlock stA smA KK OfWg RCa RCd DC0 KCa Full Payload Shy DCs EvQ)
open Go.ConcN (sumTo sumTo_upd upd_same)
open Go.Conc.Lib (WgLib WgLink)
variable{f:AF}{fr:Frame}{g:FuncId}{rs:List ResultVar}{v:AV}
noncomputable def bot(P:Program):Frame:={ (default:Frame)with fn:=P.funcs.size,defers:=[],mode:= .panicking [goexitEntry] }
theorem Xv(P:Program):Calm (bot P):=λe l h=>by
 simp only[bot,FrameMode.panicking.injEq,dO]at h;rw[← h.1];rfl
section
variable{P:Program}{E:Env}{Z:Nm}
theorem Pn(F:Fits P E)(FF:dM P E)(b:f.x.deferred=true)(e:stepT E f=some (.ret v))(R:RF Z f fr):QuitsD P 2 0 (G fr [bot P]):=by
 obtain⟨u,_,c⟩:=qB (main:=false) (cs:=[bot P]) F FF R e;have a:fr.kind= .deferred:=by rw[R.kind,b];rfl
 refine QuitsD.ctl (g':=G (bot P) []) rfl (λw=>?_) ?_
 .rw[c w,rU (.inr a) (λ_=>Xv P),a];rfl
 .refine QuitsD.ctl (g':={ G (bot P) []with status:= .finished }) rfl (λw=>?_) ⟨rfl,rfl⟩
  simp[G,stepG,unwind,bot,goexitEntry,Frame.catches];rfl
theorem Uy(FF:dM P E){c:Code}{n:Nat}{x:EX}(e:E.ft.get g=some ⟨some c,n,rs,x⟩)(d as a:Array Value)(w:World):
 stepG P false (born P { target:= .fn (.func g) a,args:=d++as }) w= .go (G (Frame.enter P g ((d++as)++a) .deferred) [bot P]) w #[]:=by
 obtain⟨fn,h1,f,_,_,h⟩:=FF.code g c n rs x e;have b : ¬ fn.name = "runtime.NumGoroutine" := by simpa using h
 simp[born,stepG,unwind,callDeferred,invoke,callFunc,h1,f,b,seen,GStep.after,G,bot]
theorem Zz(F:Fits P E)(FF:dM P E){L:WgLink}(H:WgLib P L){K:Ctx}{h:AH}{w:World}(z:Of K P E)(S:Sat K Z h w){Wg:Nat}(g:¬K.own Wg)(m:Wg<w.heap.size){c:Nat}{vs:List AV}{el:TypeId}(n:h.obj c= .cells vs el false false)
 {f:AF}{v:AV}(o:f.x.deferred=true)(e:stepT E f=some (.ret v)){fr:Frame}(R:RF Z f fr)(q:fr.mode= .returning):QL P L.tWg Wg K (G (Frame.enter P L.done #[.pointer (some ⟨Wg,0,none⟩)] .deferred) (fr::[bot P])) w:=by
 obtain⟨p,ob,hp,i,a,j,k,l,lo,hi,rfl,⟨l1,l2,A,B⟩,h1,C,r⟩:=S.at n trivial;obtain⟨rfl,rfl⟩:=(r rfl).2 rfl;have b:p.1≠Wg:=λx=>g (x▸a);refine⟨rfl,⟨el⟩,p.1,l.toList,b,i,a,λ_=>by rw[k,Array.toArray_toList];rfl,λs d t=>?_⟩;have u:=@Go.ConcX.Gen.doneD ⟨el⟩ L P H d Wg p.1 w.heap.size s l.toList m j b fr [bot P] 2 q (Pn F FF o e R) w ⟨t,λ_=>by rw[k,Array.toArray_toList];rfl⟩;have y:Frame.enter P L.done #[.pointer (some ⟨Wg,0,none⟩)] .deferred=(baseD L.done).at ⟨#[.pointer (some ⟨Wg,0,none⟩),undef,undef,undef],[]⟩ [.code (@Go.ConcX.Gen.body_done L)]:=by
  rw[enter_atD _ H.f_done (c:=@Go.ConcX.Gen.body_done L) (by rfl)];rfl
 rw[y];exact⟨23,u⟩
end
section
variable{P:Program}{Z:Loc->Prop}{ty:TypeId}{Wg:Nat}
theorem Js{a:Goroutine}(b:a.status= .running){B d u:Nat}{w0:World}:∀(S:Nat) (f:Array Goroutine) (w:World) (sl:Option (Nat×Nat)) (t:Trace) (q:Nat->Nat),sumTo f.size q=S->f.size=u->f[0]? =some a->Leavers P t f q->lI Z B d t->(∃x,w=w0.at x)->
 Reaches P f w sl t (λc w' sl' v=>c.size=u∧c[0]? =some a∧(∃x,w'=w0.at x)∧∃q',Leavers P v c q'∧lI Z B d v∧∃h j,Go.stepT P (crowd c w' sl')=runT P (crowd c (w'.at h) j) 0):=by
 intro S;induction S using Nat.strongRecOn with
 |ind S C=>
  intro f w sl t q D y h0 o z A;obtain⟨i,g,h,sl',hi,F,l⟩:=crowd_pick (P:=P) (w:=w) (sl:=sl) (Bl o h0 b) ⟨0,a,h0,b⟩;rcases kT i with rfl|m
  .exact .here ⟨y,h0,A,q,o,z,h,sl',l⟩
  .obtain⟨k,J,G,H,e,I,n,p,r,s⟩:=y5 (w:=w) (sl':=sl') (d:=h) o h0 b m hi F
   exact Reaches.step (by rw[l];exact e) (C _ (by rw[← D];exact s) _ (w.at h) sl' _ (ConcN.upd q i k) (by rw[n]) (n.trans y) p r (z.mute (by omega) I) (by obtain⟨x,rfl⟩:=A;exact⟨h,rfl⟩))
theorem YV{F:Nat}{Stop:Nat->Goroutine->Prop}(L:∀d g,Stop d g->g.status= .running){w0:World}{st G:Int}(j:WgAt ty Wg w0 st G):∀(n S:Nat) (a:Goroutine) (d:Nat) (b:Array Goroutine) (w:World) (sl:Option (Nat×Nat)) (t:Trace) (q:Nat->Nat),sumTo b.size q=S->b.size=F->b[0]? =some a->MW P ty Wg Stop n d a->Leavers P t b q->lI Z w0.heap.size d t->(∃x,w=w0.at x)->
 Reaches P b w sl t (λc w' sl' H=>∃I J q',c.size=F∧c[0]? =some J∧Stop I J∧(∃x,w'=w0.at x)∧Leavers P H c q'∧lI Z w0.heap.size I H):=by
 intro n;induction n with
 |zero=>exact λS a d b w sl t q _ o h0 u p r s=> .here ⟨d,a,q,o,h0,u,s,p,r⟩
 |succ n M=>
  intro S a d b w sl t q N o h0 u p r s;rcases o9 u with O|⟨m,Q,k,v⟩
  .exact .here ⟨d,a,q,o,h0,O,s,p,r⟩
  .cases Q
   refine Reaches.then (Js k S b w sl t q N o h0 p r s) ?_
   rintro R w1 T t1 ⟨y,f,⟨x,rfl⟩,U,z,A,B,l,C⟩
   obtain⟨g',es,h1,K,V⟩:=v ((w0.at x).at B) ⟨st,G,j⟩;have h:=runT_crowd_go (P:=P) (sl:=l) (i:=0) f (show stepG P (0==0) a ((w0.at x).at B)=_ from h1);refine Reaches.step (by rw[C];exact h) ?_;exact M _ g' _ _ _ l _ U rfl (jg.trans y) (Ag f) V (sH z f) (A.own (fn:=a.frame.fn) (pos:=a.frame.place) (λe D x W _=>(Eu (.inl (K e D)) W).2) (λe D=>vK (.inl (K e D)) (qY j))) ⟨B,rfl⟩
end
end
end Go.Ev
