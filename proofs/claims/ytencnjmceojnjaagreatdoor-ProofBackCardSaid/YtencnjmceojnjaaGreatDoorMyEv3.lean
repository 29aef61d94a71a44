/- A part of the proof that ProofBack returns true. -/
import Derived.Test.YtencnjmceojnjaaGreatDoorMyEv2
import Derived.Conc.Own2
import Derived.Conc.MarkLaws
import Derived.Conc.AtomicLaws2
import Derived.Conc.FxGenDone
import Derived.Conc.Beside
import Derived.Conc.CrowdBase
import Derived.Conc.FxEnd
set_option linter.all false
namespace Go.Ev
set_option maxRecDepth 100000
section
open Go.Conc (G)
variable{tm:Tr AV}{v:AV}
structure wB where
 tm:Nat->Tr AV
 h:Nat->AH
 ps:Nat->List (Nat×Nat×AO)
 v:Nat->AV
 ob:Nat->AO
 kind:Nat->Nat
 n:Nat
section
variable(E:Env)(r:Nat->yc)(x:AX)(Z:Array Oper)(b:Array Nat)
def X5(T:wB)(a:List DQ)(j:Nat)(o:Oper):Prop:=
 (T.kind j=0∧dU o Z (T.tm j)=some false∧T.v j=iw∧T.h (j+1)=T.h j∧T.ps (j+1)=T.ps j)∨
 (T.kind j=1∧dU o Z (T.tm j)=some true∧jZ o.op=true∧(T.h j).nx<1000000∧(∃h',fQ o.op E (T.tm j) (T.h j)=some (.val (T.v j) h')∧T.h (j+1)=⟨(T.h j).tr,h'.nx,h'.df⟩∧T.ob j=h'.obj (T.h j).nx)∧T.ps (j+1)=(j,(T.h j).nx,T.ob j)::T.ps j)∨
 (T.kind j=2∧dU o Z (T.tm j)=some true∧fD o.op E (T.tm j) (T.h j)=some (T.v j)∧T.h (j+1)=T.h j∧T.ps (j+1)=T.ps j∧(kG o.op=true->⟨o.op,j,T.tm j,T.v j⟩∈a))∨
 (T.kind j=3∧dU o Z (T.tm j)=some true∧vP E (r j) (wake (b.getD j 0) (T.ps j) (T.h j)).1 (fQ o.op E (T.tm j) (wake (b.getD j 0) (T.ps j) (T.h j)).1)=some (T.v j,T.h (j+1))∧T.ps (j+1)=(wake (b.getD j 0) (T.ps j) (T.h j)).2)
def Step(T:wB)(a:List DQ)(j:Nat):Prop:=∃o,Z[j]? =some o∧T.tm (j+1)=fin x o.dst (T.v j) (T.tm j)∧X5 E r Z b T a j o
end
def nU(T:wB)(i k:Nat):List (Nat×AH):=((List.range' i k).filter λj=>T.kind j==3).map λj=>(j,T.h (j+1))
section
variable{E:Env}{r:Nat->yc}{x:AX}{Z:Array Oper}{b:Array Nat}{Y:AH}
def wB.lay(T:wB)(i:Nat)(tm:Tr AV)(h:AH)(ps:List (Nat×Nat×AO))(v:AV)(ob:AO)(kind:Nat):wB where
 tm:=λj=>if j=i then tm else T.tm j
 h:=λj=>if j=i then h else T.h j
 ps:=λj=>if j=i then ps else T.ps j
 v:=λj=>if j=i then v else T.v j
 ob:=λj=>if j=i then ob else T.ob j
 kind:=λj=>if j=i then kind else T.kind j
 n:=T.n
theorem Step.lay{T:wB}{a:List DQ}{i j:Nat}{tm:Tr AV}{h:AH}{ps:List (Nat×Nat×AO)}{v:AV}{ob:AO}{k:Nat}(hj:i+1<=j)(H:Step E r x Z b T a j):Step E r x Z b (T.lay i tm h ps v ob k) a j:=by
 have h1:j≠i:=by omega
 have c:j+1≠i:=by omega
 unfold Step X5 wB.lay at*;simp only[ah h1,ah c];exact H
theorem YB{T:wB}{i k:Nat}{h:AH}{ps:List (Nat×Nat×AO)}{ob:AO}{c:Nat}:nU (T.lay i tm h ps v ob c) i (k+1)=(if c=3 then[(i,T.h (i+1))]else[])++nU T (i+1) k:=by
 have a:((List.range' (i+1) k).filter λj=>(T.lay i tm h ps v ob c).kind j==3).map (λj=>(j,(T.lay i tm h ps v ob c).h (j+1)))=nU T (i+1) k:=by
  unfold nU;have e1:∀j∈List.range' (i+1) k,((T.lay i tm h ps v ob c).kind j==3)=(T.kind j==3):=λj hj=>by
   have:j≠i:=by have:=List.mem_range'_1.1 hj;omega
   simp[wB.lay,this]
  rw[List.filter_congr e1];refine List.map_congr_left λj hj=>?_;have:j+1≠i:=by have:=List.mem_range'_1.1 (iR.1 hj).1;omega
  simp[wB.lay,this]
 show((List.range' i (k+1)).filter _).map _=_;rw[zJ,uw];by_cases d:c=3
 .have e:((T.lay i tm h ps v ob c).kind i==3)=true:=by simp[wB.lay,d]
  rw[aC e,aC d,yT,a];simp[wB.lay]
 .have e:¬((T.lay i tm h ps v ob c).kind i==3)=true:=by simp[wB.lay,d]
  rw[ah e,ah d,a];rfl
theorem QX{n:Nat}(hn:n<=Z.size):∀(l:List Oper) (i:Nat) (tm:Tr AV) (w:List DQ) (g:List (Nat×AH)) (ps:List (Nat×Nat×AO)) (h:AH) (p:Tr AV×AH),i<=n->l=(Z.toList.take n).drop i->
 uJ E r x b Z Y l i tm w g ps h=some p->∃(T:wB) (a:List DQ),T.n=n∧T.tm i=tm∧T.h i=h∧T.ps i=ps∧(∀j,i<=j->j<n->Step E r x Z b T a j)∧(∀q∈w,q∈a)∧
  qB b (g.reverse++nU T i (n - i))=true∧(∀q∈a,su E b (g.reverse++nU T i (n - i)) Y q=true)∧p=(T.tm n,pJ (T.ps n) (T.h n)):=by
 intro l;induction l with
 |nil=>
  intro i tm w g ps h p hi D e;have M:i=n:=by
   rcases aT i (Z.toList.take n).length with h|h
   .rw[bn h]at D;cases D
   .simp at h;omega
  subst M;unfold uJ at e;cases F:(qB b g.reverse&&w.all (su E b g.reverse Y))with
  |false=>rw[F]at e;cases e
  |true=>
   rw[F]at e;rw[aF,fM]at F;cases e;refine⟨⟨λ_=>tm,λ_=>h,λ_=>ps,λ_=> .any,λ_=> .dead,λ_=>0,i⟩,w,rfl,rfl,rfl,rfl,λj h1 W=>by omega,λq c=>c,?_,?_,rfl⟩
   .simp[nU];exact F.1
   .simpa[nU]using F.2
 |cons o os ih=>
  intro i tm w g ps h p hi D e;have hlt:i<n:=by
   rcases aT i (Z.toList.take n).length with h|h
   .simp at h;omega
   .rw[gG h]at D;cases D
  have G:i<(Z.toList.take n).length:=by simp;omega
  have H:=D;rw[bn G]at H;injection H with N O;have ho:Z[i]? =some o:=by
   rw[N,dI (by omega)];simp
  have hk:n - i=(n - (i+1))+1:=by omega
  have go:∀{t:Tr AV} {m:List DQ} {d:List (Nat×AH)} {u:List (Nat×Nat×AO)} {h1:AH} (v:AV) (ob:AO) (k:Nat),uJ E r x b Z Y os (i+1) t m d u h1=some p->t=fin x o.dst v tm->(∀q∈w,q∈m)->
   (d.reverse=g.reverse++(if k=3 then[(i,h1)]else[]))->
   (∀T a,T.tm i=tm->T.h i=h->T.ps i=ps->T.v i=v->T.ob i=ob->T.kind i=k->T.h (i+1)=h1->T.ps (i+1)=u->(∀q∈m,q∈a)->X5 E r Z b T a i o)->
   ∃(T:wB) (a:List DQ),T.n=n∧T.tm i=tm∧T.h i=h∧T.ps i=ps∧(∀j,i<=j->j<n->Step E r x Z b T a j)∧(∀q∈w,q∈a)∧
   qB b (g.reverse++nU T i (n - i))=true∧(∀q∈a,su E b (g.reverse++nU T i (n - i)) Y q=true)∧p=(T.tm n,pJ (T.ps n) (T.h n)):=by
   intro t m d u h1 v ob k e1 P Q R S;obtain⟨T,a,t0,t1,t2,t3,t4,t5,t6,t7,t8⟩:=ih (i+1) t m d u h1 p (by omega) O e1;have X:g.reverse++nU (T.lay i tm h ps v ob k) i (n - i)=d.reverse++nU T (i+1) (n - (i+1)):=by
    rw[hk,YB,R,t2,fC]
   have d:n≠i:=by omega
   refine⟨T.lay i tm h ps v ob k,a,t0,by simp[wB.lay],by simp[wB.lay],by simp[wB.lay],λj h1 W=>?_,λq c=>t5 q (Q q c),by rw[X];exact t6,by rw[X];exact t7,by rw[t8];simp[wB.lay,d]⟩;rcases kK h1 with rfl|h1
   .refine⟨o,ho,?_,S _ _ (by simp[wB.lay]) (by simp[wB.lay]) (by simp[wB.lay]) (by simp[wB.lay]) (by simp[wB.lay]) (by simp[wB.lay]) (by simp[wB.lay,t2]) (by simp[wB.lay,t3]) t5⟩
    simp[wB.lay,t1,P]
   .exact(t4 j h1 W).lay h1
  unfold uJ at e;split at e
  .cases e
  .rename_i I
   exact go iw .dead 0 e rfl (λq c=>c) (by simp) (λT a s f y z J A B C K=> .inl ⟨A,by rw[s];exact I,z,by rw[B,f],by rw[C,y]⟩)
  .rename_i I
   cases U:jZ o.op with
   |true=>
    rw[U]at e;simp only[bG]at e;split at e
    .rename_i v h' V
     cases L:Nat.blt h.nx 1000000 with
     |false=>rw[L]at e;cases e
     |true=>
      rw[L]at e;rw[dB]at L;refine go v (h'.obj h.nx) 1 e rfl (λq c=>c) (by simp) (λT a s f y z J A B C K=> .inr (.inl ⟨A,by rw[s];exact I,U,by rw[f];exact L,⟨h',by rw[s,f,z];exact V,by rw[B,f],by rw[J,f]⟩,by rw[C,y,f,J]⟩))
    .cases e
   |false=>
    rw[U]at e;simp only[bH]at e;split at e
    .rename_i v c
     refine go v .dead 2 e rfl (λq c=>?_) (by simp) (λT a s f y z J A B C K=> .inr (.inr (.inl ⟨A,by rw[s];exact I,by rw[s,f,z];exact c,by rw[B,f],by rw[C,y],λhr=>?_⟩)))
     .cases kG o.op with
      |true=>exact aY _ c
      |false=>exact c
     .refine K _ ?_
      rw[hr,s,z];exact dA ..
    .split at e
     .rename_i q c
      refine go q.1 .dead 3 e rfl (λq c=>c) (by simp) (λT a s f y z J A B C K=> .inr (.inr (.inr ⟨A,by rw[s];exact I,by rw[s,f,y,z,B];exact c,by rw[C,f,y]⟩)))
     .cases e
theorem IL(acc:Array Nat):∀(l:List Edge) (s p:Nat),(l.foldl (λs e=>if Region.binds .any e then s ||| 2 ^ e.on ||| acc.getD e.on 0 else s) s).testBit p=true->
 s.testBit p=true∨∃e∈l,Region.binds .any e=true∧(p=e.on∨(acc.getD e.on 0).testBit p=true)
 |[],s,p,h=> .inl h
 |e::l,s,p,h=>by
  rw[kY]at h;rcases IL acc l _ p h with h|⟨c,d,h1,f⟩
  .by_cases a:Region.binds .any e=true
   .rw[aC a]at h
    rw[Nat.testBit_or,Nat.testBit_or,iU,iU]at h;rcases h with(h|h)|h
    .exact .inl h
    .exact .inr ⟨e,by simp,a,.inl (by rw[Nat.testBit_two_pow]at h;have:=dN h;omega)⟩
    .exact .inr ⟨e,by simp,a,.inr h⟩
   .rw[ah a]at h;exact .inl h
  .exact .inr ⟨c,aY _ d,h1,f⟩
theorem Lu:∀(l:List Oper) (acc:Array Nat) (Z:List Oper),Z.drop acc.size=l->(∀i o,i<acc.size->Z[i]? =some o->∀p,(acc.getD i 0).testBit p=true->∃e∈o.after,Region.binds .any e=true∧(p=e.on∨(e.on<i∧(acc.getD e.on 0).testBit p=true)))->
 ∀i o,Z[i]? =some o->∀p,((l.foldl (λacc o=>acc.push (o.after.foldl (λs e=>if Region.binds .any e then s ||| 2 ^ e.on ||| acc.getD e.on 0 else s) 0)) acc).getD i 0).testBit p=true->
  ∃e∈o.after,Region.binds .any e=true∧(p=e.on∨(e.on<i∧((l.foldl (λacc o=>acc.push (o.after.foldl (λs e=>if Region.binds .any e then s ||| 2 ^ e.on ||| acc.getD e.on 0 else s) 0)) acc).getD e.on 0).testBit p=true))
 |[],acc,Z,m,z,i,o,n,p,hp=>by
  have F:Z.length<=acc.size:=by
   rcases aT acc.size Z.length with h|h
   .rw[bn h]at m;cases m
   .exact h
  have hi:i<Z.length:=by
   rcases aT i Z.length with h|h
   .exact h
   .rw[mD h]at n;cases n
  exact z i o (by omega) n p hp
 |G::l,acc,Z,m,z,i,o,n,p,hp=>by
  have t:acc.size<Z.length:=by
   rcases aT acc.size Z.length with h|h
   .exact h
   .rw[gG h]at m;cases m
  have u:=m;rw[bn t]at u;injection u with e1 e2;simp only[kY]at hp ⊢;refine Lu l _ Z (by rw[oP];exact e2) (λj v hj f q w=>?_) i o n p hp;rw[oP]at hj;have a:∀k y,k<acc.size->(acc.push y).getD k 0=acc.getD k 0:=λk y H=>by
   rw[bg,bg,lG];rw[ah (by omega)]
  rcases aT j acc.size with g|g
  .rw[a j _ g]at w
   obtain⟨e,A,B,c⟩:=z j v g f q w;refine⟨e,A,B,c.imp id λc=>⟨c.1,?_⟩⟩;rw[a _ _ (by omega)];exact c.2
  .have C:j=acc.size:=by omega
   subst C;have D:v=G:=by
    rw[aI t]at f;cases f;exact e1
   subst D;have:(acc.push (v.after.foldl (λs e=>if Region.binds .any e then s ||| 2 ^ e.on ||| acc.getD e.on 0 else s) 0)).getD acc.size 0=v.after.foldl (λs e=>if Region.binds .any e then s ||| 2 ^ e.on ||| acc.getD e.on 0 else s) 0:=by
    rw[bg,lG];simp
   rw[this,← oK]at w;rcases IL acc v.after.toList 0 q w with h|⟨e,A,B,c⟩
   .simp at h
   .refine⟨e,Array.mem_toList_iff.1 A,B,?_⟩
    rcases c with c|c
    .exact .inl c
    .right
     have d:e.on<acc.size:=by
      rcases aT e.on acc.size with h|h
      .exact h
      .rw[bg,Array.getElem?_eq_none h]at c
       simp at c
     exact⟨d,by rw[a _ _ d];exact c⟩
theorem Cb{Z:Array Oper}{i:Nat}{o:Oper}(a:Z[i]? =some o){p:Nat}(hp:((Region.before Z).getD i 0).testBit p=true):
 ∃e∈o.after,Region.binds .any e=true∧(p=e.on∨(e.on<i∧((Region.before Z).getD e.on 0).testBit p=true)):=by
 have h:=Lu Z.toList #[] Z.toList rfl (λi o hi=>by simp at hi) i o (by simpa using a) p;have e:Region.before Z=Z.toList.foldl (λacc o=>acc.push (o.after.foldl (λs e=>if Region.binds .any e then s ||| 2 ^ e.on ||| acc.getD e.on 0 else s) 0)) #[]:=by
  unfold Region.before;rw[← oK]
 rw[e]at hp ⊢;exact h hp
theorem Uf{Z:Array Oper}{i:Nat}(hi:Z.size<=i):(Region.before Z).getD i 0=0:=by
 have a:∀(l:List Oper) (acc:Array Nat),(l.foldl (λacc o=>acc.push (o.after.foldl (λs e=>if Region.binds .any e then s ||| 2 ^ e.on ||| acc.getD e.on 0 else s) 0)) acc).size=acc.size+l.length:=by
  intro l;induction l with
  |nil=>intro acc;rfl
  |cons o l c=>intro acc;rw[kY,c,oP,fB];omega
 have:(Region.before Z).size=Z.size:=by
  unfold Region.before;rw[← oK,a];simp
 rw[bg,Array.getElem?_eq_none (by omega)];rfl
structure lY(Z:Array Oper):Prop where
 edge:∀(i:Nat) (o:Oper),Z[i]? =some o->∀e∈o.after,Region.binds .any e=true->e.on<i
 dst:∀(i:Nat) (o:Oper) (d:Nat),Z[i]? =some o->o.dst=some d->d<1000000
 comp:∀(i j:Nat) (oi oj:Oper) (d:Nat),Z[i]? =some oi->Z[j]? =some oj->i≠j->oj.dst=some d->(oi.dst=some d∨d∈oi.looksAt Z)->((Region.before Z).getD i 0).testBit j=true∨((Region.before Z).getD j 0).testBit i=true
theorem Fb{Z:Array Oper}(h:wS Z.toList (Region.before Z) Z=true):lY Z:=by
 unfold wS at h;rw[aF,fM,fM]at h;obtain⟨h1,q⟩:=h;have g:∀{i:Nat} {o:Oper},Z[i]? =some o->(o,i)∈Z.toList.zipIdx:=λ{i o} a=>by
  rw[List.mem_zipIdx_iff_getElem?];simpa using a
 refine⟨λi o a e s k=>?_,λi o d a l=>?_,λi j p t d hi hj m l n=>?_⟩
 .have:=h1 _ (g a)
  rw[aF,fM]at this;have:=this.1 e (by simpa using s);simp only[k,Bool.not_true,Bool.false_or]at this;rw[dB]at this;exact this
 .have:=h1 _ (g a)
  rw[aF]at this;have:=this.2;simp only[l]at this;rw[dB]at this;exact this
 .have:=q _ (g hi)
  rw[fM]at this;have:=this _ (g hj);simp only[l]at this;have c:Nat.beq i j=false:=by cases k:Nat.beq i j with |false=>rfl|true=>exact aX (au k) m
  have f:((p.dst==some d)||(p.looksAt Z).contains d)=true:=by
   rw[iU];rcases n with h|h
   .left;rw[h];simp
   .right;simpa using h
  rw[c,f]at this;simp only[Bool.false_or,Bool.not_true,iU]at this;exact this
theorem DK{Z:Array Oper}(R:lY Z):∀(i:Nat) (p:Nat),((Region.before Z).getD i 0).testBit p=true->p<i:=by
 intro i;induction i using Nat.strongRecOn with
 |ind i c=>
  intro p hp;rcases aT i Z.size with hi|hi
  .have a:Z[i]? =some Z[i]:=dI hi
   obtain⟨e,d,f,g⟩:=Cb a hp;have:=R.edge i _ a e d f;rcases g with rfl|⟨h1,h⟩
   .exact this
   .have:=c _ h1 p h;omega
  .rw[Uf hi]at hp;simp at hp
end
end
section
open Go.Conc (G)
variable{D:Nat->Bool}{i j q:Nat}{tm tm':Tr AV}
def Bf(ops:Array Oper)(i p:Nat):Prop:=((Region.before ops).getD i 0).testBit p=true
theorem Qx(m:Nat):∀(ps:List (Nat×Nat×AO)) (h:AH) {i:Nat} {o:AO},(wake m ps h).1.tr.get i=some o->h.tr.get i=some o∨∃e∈ps,m.testBit e.1=true∧i=e.2.1∧o=e.2.2
 |[],h,i,o,e=> .inl e
 |p::ps,h,i,o,e=>by
  unfold wake at e;have c:=Qx m ps h (i:=i) (o:=o);cases a:m.testBit p.1 with
  |true=>
   simp only[a,bG]at e;rcases AH.qW e with⟨rfl,rfl⟩|⟨_,d⟩
   .exact .inr ⟨p,by simp,a,rfl,rfl⟩
   .rcases c d with h1|⟨q,b,h1⟩
    .exact .inl h1
    .exact .inr ⟨q,aY _ b,h1⟩
  |false=>
   simp only[a,bH]at e;rcases c e with h1|⟨q,b,h1⟩
   .exact .inl h1
   .exact .inr ⟨q,aY _ b,h1⟩
theorem Qw(m:Nat):∀(ps:List (Nat×Nat×AO)) (h:AH) {e:Nat×Nat×AO},e∈(wake m ps h).2->e∈ps∧m.testBit e.1=false
 |[],_,e,a=>by simp[wake]at a
 |p::ps,h,e,a=>by
  unfold wake at a;have b:=Qw m ps h (e:=e);cases c:m.testBit p.1 with
  |true=>
   simp only[c,bG]at a;exact⟨aY _ (b a).1,(b a).2⟩
  |false=>
   simp only[c,bH]at a;rcases ay.1 a with rfl|a
   .exact⟨by simp,c⟩
   .exact⟨aY _ (b a).1,(b a).2⟩
theorem Wh(m:Nat):∀(ps:List (Nat×Nat×AO)) (h:AH),(wake m ps h).1.df=h.df
 |[],_=>rfl
 |p::ps,h=>by
  unfold wake;have a:=Wh m ps h;cases b:m.testBit p.1 with
  |true=>simp only[bG];rw[AH.wV];exact a
  |false=>simp only[bH];exact a
theorem Np:∀(ps:List (Nat×Nat×AO)) (h:AH),(pJ ps h).df=h.df
 |[],_=>rfl
 |p::ps,h=>by unfold pJ;rw[Np ps,AH.wV]
theorem Kr:∀(ps:List (Nat×Nat×AO)) (h:AH) {i:Nat} {o:AO},(pJ ps h).tr.get i=some o->h.tr.get i=some o∨∃e∈ps,i=e.2.1∧o=e.2.2
 |[],h,i,o,e=> .inl e
 |p::ps,h,i,o,e=>by
  unfold pJ at e;rcases Kr ps _ e with h1|⟨q,a,h1⟩
  .rcases AH.qW h1 with⟨rfl,rfl⟩|⟨_,b⟩
   .exact .inr ⟨p,by simp,rfl,rfl⟩
   .exact .inl b
  .exact .inr ⟨q,aY _ a,h1⟩
section
variable{x:AX}{Z:Array Oper}{T:wB}
def rJ(Z:Array Oper)(j:Nat):Option Tmp:=(Z[j]?).bind (·.dst)
noncomputable def tH(x:AX)(Z:Array Oper)(T:wB)(D:Nat->Bool):Nat->Tr AV
 |0=>T.tm 0
 |j+1=>cond (D j) (fin x (rJ Z j) (T.v j) (tH x Z T D j)) (tH x Z T D j)
theorem wJ(R:lY Z){t:Nat}(h:rJ Z j=some t):t<1000000:=by
 unfold rJ at h;cases a:Z[j]? with
 |none=>rw[a]at h;cases h
 |some o=>rw[a]at h;exact R.dst j o t a h
theorem Ot(a:∀j,j<T.n->T.tm (j+1)=fin x (rJ Z j) (T.v j) (T.tm j)){D:Nat->Bool}:∀j,j<=T.n->(∀i,i<j->D i=true)->tH x Z T D j=T.tm j
 |0,_,_=>rfl
 |j+1,h,b=>by
  unfold tH;rw[b j (by omega),bG,Ot a j (by omega) (λi hi=>b i (by omega)),a j (by omega)]
theorem GL(R:lY Z){D D':Nat->Bool}{t:Nat}:∀n,(∀j,j<n->rJ Z j=some t->D j=D' j)->(tH x Z T D n).get t=(tH x Z T D' n).get t
 |0,_=>rfl
 |n+1,h=>by
  have c:=GL R (D:=D) (D':=D') (t:=t) n λj hj=>h j (by omega);unfold tH;by_cases a:rJ Z n=some t
  .rw[h n (by omega) a]
   cases D' n with
   |true=>simp only[bG];rw[Aj (λi hi=>wJ R hi),Aj (λi hi=>wJ R hi),aC a,aC a]
   |false=>exact c
  .have key:∀(b:Bool) (tm:Tr AV),(cond b (fin x (rJ Z n) (T.v n) tm) tm).get t=tm.get t:=λb tm=>by
    cases b with
    |true=>simp only[bG];rw[Aj (λi hi=>wJ R hi),ah a]
    |false=>rfl
   rw[key,key];exact c
theorem GN{q:Nat}:∀n,q<=n->tH x Z T (λj=>decide (j<q)) n=tH x Z T (λj=>decide (j<q)) q
 |0,h=>by have:q=0:=by omega
          subst this;rfl
 |n+1,h=>by
  rcases kK h with rfl|h
  .rfl
  .have a:=GN n (by omega:q<=n)
   show cond (decide (n<q)) _ _=_;have:decide (n<q)=false:=by simp;omega
   rw[this,bH];exact a
theorem QI(R:lY Z){D:Nat->Bool}{q t:Nat}(a:D q=true)(b:rJ Z q=some t):∀n,q<n->(∀j,q<j->j<n->D j=true->rJ Z j≠some t)->(tH x Z T D n).get t=some (cond (Nat.blt t x.nt) (T.v q) iw)
 |0,h,_=>by omega
 |n+1,h,c=>by
  unfold tH;rcases kK h with h|h
  .have:n=q:=by omega
   subst this;rw[a,bG,Aj (λi hi=>wJ R hi),aC b]
  .have d:=QI R a b n (by omega) λj h1 f=>c j h1 (by omega)
   cases e:D n with
   |true=>
    simp only[bG];rw[Aj (λi hi=>wJ R hi),ah (c n (by omega) (by omega) e)];exact d
   |false=>exact d
structure Ready(Z:Array Oper)(D:Nat->Bool)(q:Nat):Prop where
 lt:q<Z.size
 no:D q=false
 ahead:∀p,Bf Z q p->D p=true
def Closed(Z:Array Oper)(D:Nat->Bool):Prop:=∀i,D i=true->∀p,Bf Z i p->D p=true
def xE(D:Nat->Bool)(q:Nat):Nat->Bool:=λj=>D j||j==q
theorem nM(D:Nat->Bool)(q:Nat):xE D q q=true:=by simp[xE]
theorem pq(h:j≠q):xE D q j=D j:=by simp[xE,h]
theorem P5(h:D j=true):xE D q j=true:=by simp[xE,h]
theorem Closed.add(h:Closed Z D)(b:Ready Z D q):Closed Z (xE D q):=λi hi p hp=>by
 by_cases a:i=q
 .subst a;exact P5 (b.ahead p hp)
 .rw[pq a]at hi;exact P5 (h i hi p hp)
theorem GY(h:j<Z.size):∃o,Z[j]? =some o:=⟨Z[j],dI h⟩
theorem BP{o:Oper}(h:Z[j]? =some o):rJ Z j=o.dst:=by unfold rJ;rw[h];rfl
theorem writers(R:lY Z)(g:Closed Z D)(d:Ready Z D q){o:Oper}(i:Z[q]? =some o){t:Nat}(k:o.dst=some t∨t∈o.looksAt Z)(hj:j<Z.size)(b:q≠j)(e:rJ Z j=some t):D j=decide (j<q):=by
 obtain⟨l,a⟩:=GY hj;rw[BP a]at e;rcases R.comp q j o l t i a b e k with h|h
 .have h1:D j=true:=d.ahead j h
  have f:=DK R q j h;rw[h1];simp[f]
 .have f:=DK R j q h
  have h1:D j=false:=by
   cases c:D j with
   |false=>rfl
   |true=>have:=g j c q h;rw[d.no]at this;cases this
  rw[h1];simp;omega
theorem Hz(R:lY Z)(d:∀j,j<T.n->T.tm (j+1)=fin x (rJ Z j) (T.v j) (T.tm j))(e:Closed Z D)(a:Ready Z D q)(b:q<T.n){o:Oper}(f:Z[q]? =some o){t:Nat}(g:t∈o.looksAt Z):
 (tH x Z T D Z.size).get t=(T.tm q).get t:=by
 have h1:tH x Z T (λj=>decide (j<q)) Z.size=T.tm q:=by
  rw[GN Z.size (iD a.lt)];exact Ot d q (iD b) λi hi=>by simp[hi]
 rw[← h1];refine GL R Z.size λj hj h=>?_;by_cases c:q=j
 .subst c;rw[a.no];simp
 .exact writers R e a f (.inr g) hj c h
theorem Ou(R:lY Z)(g:Closed Z D)(d:Ready Z D q){o:Oper}(c:Z[q]? =some o)(t:Nat):
 (tH x Z T (xE D q) Z.size).get t=(fin x o.dst (T.v q) (tH x Z T D Z.size)).get t:=by
 rw[Aj (λi hi=>R.dst q o i c hi)];by_cases a:o.dst=some t
 .rw[aC a]
  refine QI R (nM D q) (by rw[BP c];exact a) Z.size d.lt λj h1 h f k=>?_;rw[pq (by omega)]at f;have:=writers R g d c (.inl a) h (by omega) k;rw[f]at this;simp at this;omega
 .rw[ah a]
  refine GL R Z.size λj hj b=>pq λe=>?_;subst e;rw[BP c]at b;exact a b
theorem Et{o:Oper}(h:∀t∈o.looksAt Z,tm.get t=tm'.get t):Alike tm tm' o.op.operands.toList:=λy a=>by
 cases y with
 |tmp t=>
  have:t∈o.looksAt Z:=by
   unfold Oper.looksAt;refine bQ.2 (.inl ?_);rw[List.mem_filterMap];exact⟨_,a,rfl⟩
  show(match tm.get t with |some v=>v|none=> .any)=(match tm'.get t with |some v=>v|none=> .any);rw[h t this]
 |const v=>rfl
 |global g=>rfl
 |func g=>rfl
theorem Bz{o:Oper}(h:∀t∈o.looksAt Z,tm.get t=tm'.get t):dU o Z tm=dU o Z tm':=by
 unfold dU;cases a:o.guard with
 |none=>rfl
 |some p=>
  simp only;unfold Vz;cases hj:Z[p.1]? with
  |none=>rfl
  |some b=>
   simp only;cases c:b.dst with
   |none=>rfl
   |some d=>
    simp only;have:d∈o.looksAt Z:=by
     unfold Oper.looksAt;refine bQ.2 (.inr ?_);rw[a];simp[hj,c]
    rw[h d this]
end
theorem IZ{ops:Array Oper}{C:(Nat->Bool)->Prop}(d:∀D,C D->Closed ops D):∀{L:List (Nat×AH)},qB (Region.before ops) L=true->L.Pairwise λp q=>∀D,C D->D q.1=true->D p.1=true
 |[],_=> .nil
 |[_],_=>zK _ _
 |p::q::l,h=>by
  unfold qB at h;rw[aF]at h;have e:=IZ d (L:=q::l) h.2;have a:∀D,C D->D q.1=true->D p.1=true:=λD b f=>d D b q.1 f p.1 h.1;refine oJ.2 ⟨λs c=>?_,e⟩;rcases ay.1 c with rfl|c
  .exact a
  .exact λD b h1=>a D b ((oJ.1 e).1 s c D b h1)
theorem IJ{α:Type}{R:α->α->Prop}{f:α->Nat}:∀{L:List α},L.Pairwise R->L.Pairwise (λa b=>f a<f b)->∀a∈L,∀b∈L,f a<f b->R a b
 |[],_,_,a,e,_,_,_=>by simp at e
 |x::l,h1,g,a,e,b,i,h=>by
  rw[oJ]at h1 g;rcases ay.1 e with e1|c<;>rcases ay.1 i with e2|d
  .subst e1;subst e2;omega
  .subst e1;exact h1.1 b d
  .subst e2;have:=g.1 a c;omega
  .exact IJ h1.2 g.2 a c b d h
theorem Fv(T:wB)(i k:Nat):(nU T i k).Pairwise λa b=>a.1<b.1:=by
 unfold nU;rw[List.pairwise_map];exact(List.pairwise_lt_range' (s:=i) (n:=k)).filter _
theorem Hw{T:wB}{k:Nat}(h1:i<=j)(a:j<i+k)(b:T.kind j=3):(j,T.h (j+1))∈nU T i k:=by
 unfold nU;refine gU.2 ⟨j,iR.2 ⟨List.mem_range'_1.2 ⟨h1,a⟩,by simp[b]⟩,rfl⟩
theorem vZ{T:wB}{k:Nat}{p:Nat×AH}(h:p∈nU T i k):i<=p.1∧p.1<i+k∧T.kind p.1=3∧p.2=T.h (p.1+1):=by
 unfold nU at h;obtain⟨j,hj,rfl⟩:=gU.1 h;obtain⟨h1,a⟩:=iR.1 hj;have:=List.mem_range'_1.1 h1;exact⟨this.1,this.2,by simpa using a,rfl⟩
theorem II{E:Env}{b:Array Nat}{q:DQ}{m:Nat}:∀{L:List (Nat×AH)},uK E b q L=true->L.Pairwise (λa b=>a.1<b.1)->(∀s∈L,m<=s.1->(b.getD q.i 0).testBit s.1=false)->(∀s∈L,s.1<m->(b.getD s.1 0).testBit q.i=false)->
 ∀p∈L,p.1<m->(∀s∈L,s.1<m->s.1<=p.1)->EH E q p.2=true
 |[],_,_,_,_,p,hp,_,_=>by simp at hp
 |y::l,h,e,h1,f,p,hp,g,d=>by
  unfold uK at h;rw[oJ]at e;rcases ay.1 hp with rfl|hp
  .have e1:(b.getD p.1 0).testBit q.i=false:=f p (by simp) g
   have e2:(l.any λx=>(b.getD q.i 0).testBit x.1)=false:=by
    rw[List.any_eq_false];intro s c;have k:=e.1 s c;have:m<=s.1:=by
     rcases aT s.1 m with h|h
     .have:=d s (by simp[c]) h;omega
     .exact h
    rw[h1 s (by simp[c]) this];simp
   rw[e1,e2]at h;simp only[Bool.or_self,bH,aF]at h;exact h.1
  .have:uK E b q l=true:=by
    cases j:((b.getD y.1 0).testBit q.i||l.any λx=>(b.getD q.i 0).testBit x.1)with
    |true=>rw[j]at h;exact h
    |false=>rw[j]at h;simp only[bH,aF]at h;exact h.2
   exact II this e.2 (λs c=>h1 s (by simp[c])) (λs c=>f s (by simp[c])) p hp g λs c=>d s (by simp[c])
end
section
open Go.Conc (G)
section
variable{P:Program}{main:Bool}{K:Ctx}{Z:Nm}{h:AH}{w:World}{E:Env}{r:yc}
variable{x:AX}{U:Tr AV}{R:List AD}{X:Array Oper}{i:Nat}{Y:List Nat}{T:List Item}{V:Frame}{cs:List Frame}{o:Oper}
def sU(K:Ctx)(Z:Nm)(nx:Nat)(x:AX)(U:Tr AV)(R:List AD)(X:Array Oper)(Y:List Nat)(T:List Item)(cs:List Frame)(h':AH):Nat->Goroutine->World->Prop:=λd g w=>
 ∃ι' a,g=G a cs∧Grow Z ι' nx h'.nx∧Sat K ι' h' w∧iC ι' x U R X Y T a∧d=h'.df
theorem BH{h':AH}{d:Tr AV}(H:∀a,kX K w a->GoTo P main K Z h a V cs (λι' b=>iC ι' x d R X Y T b) h')(f:Free Z h.nx h'.nx):Walk P main K (sU K Z h.nx x d R X Y T cs h') h.df (G V cs) w:=by
 refine Walk.of rfl λa hr=>?_;obtain⟨ι',b,w',es,h1,g,j,k,l,m⟩:=H a hr f;exact⟨_,w',es,h1,l,.stop λe c=>⟨ι',b,rfl,g,j.rely c,k,m⟩⟩
theorem aau(hr:EL P main E r)(s:Of K P E)(F:Fits P E)(FF:eU P E)(S:Sat K Z h w)(H:pG Z x U R X i Y T V)(t:X[i]? =some o)(C:Region.wanted o (yielded X V.tmps)=true)
 {p:AV×AH}(e:vP E r h (fQ o.op E U h)=some p)(y:Free Z h.nx p.2.nx):Walk P main K (sU K Z h.nx x (fin x o.dst p.1 U) R X Y T cs p.2) h.df (G V cs) w:=by
 cases m:fQ o.op E U h with
 |none=>rw[m]at e;cases e
 |some q=>
  rw[m]at e;cases q with
  |val v h'=>
   cases e;exact BH (λj f=>Fq s F (S.rely f) H t C m) y
  |call g args=>
   simp only[vP]at e;split at e
   .rename_i c n rs ex k
    refine Walk.of rfl λj f=>?_;obtain⟨vs,h1,h2⟩:=Dv (main:=main) (cs:=cs) s F FF (S.rely f) H t C m k;refine⟨_,_,#[],h2,iG.refl j,?_⟩;refine(hr.call _ _ _ _ e K Z j vs _ _ s (S.rely f) h1 (λI=>by cases I) y).mono ?_
    rintro d' g' J ⟨ι',u,rfl,D,g2,L,rfl⟩
    exact⟨ι',V.finish u,rfl,D,g2,H.finish t (D.ext y) L,rfl⟩
   .rename_i n rs ex k
    split at e
    .rename_i v h' I
     cases e;exact BH (λj f=>SA s F FF (S.rely f) H t C m k I) y
    .cases e
   .cases e
  |yield l args=>
   simp only[vP]at e;obtain⟨g,k,z⟩:=hr.round _ _ _ _ e
   .refine Walk.of rfl λj f=>?_
    obtain⟨A,es,D,g2,L,N⟩:=KI (main:=main) (cs:=cs) s F (S.rely f) H t C m g k;have M:g.x.deferred=false:=by
     unfold wQ at k;split at k
     .rename_i st pd fn nt tm' ps a b d O
      cases m:Nat.beq args.length ps.length with
      |false=>rw[m]at k;cases k
      |true=>rw[m]at k;cases k;rfl
     .cases k
    have B:A.kind= .normal:=by rw[N.kind,M];rfl
    refine⟨_,j,es,D,g2,?_⟩;rw[L];have W:=z K Z j A V cs s (S.rely f) N B y;refine W.mono ?_
    rintro d' g' J ⟨ι',u,rfl,Q,j2,j3,rfl⟩
    rw[B];exact⟨ι',V.finish u,rfl,Q,j2,H.finish t (Q.ext y) j3,rfl⟩
  |_=>cases e
end
def xP(ops:Array Oper)(T:wB)(D:Nat->Bool)(f:Nat):Prop:=f<T.n∧D f=true∧T.kind f=1∧∀l,l<T.n->T.kind l=3->D l=true->¬Bf ops l f
def MD(ops:Array Oper)(T:wB)(D:Nat->Bool)(m:Nat)(i:Nat)(o:AO):Prop:=(T.h m).tr.get i=some o∨∃f,xP ops T D f∧i=(T.h f).nx∧o=T.ob f
structure Inv(K:Ctx)(ι0:Nm)(ops:Array Oper)(T:wB)(D:Nat->Bool)(m:Nat)(ι:Nm)(w:World):Prop where
 sat:vJ K ι (MD ops T D m) w
 grow:Grow ι0 ι (T.h 0).nx (T.h T.n).nx
 free:∀j,j<T.n->D j=false->Free ι (T.h j).nx (T.h (j+1)).nx
 loud:∀l,l<T.n->T.kind l=3->(D l=true↔l<m)
 closed:Closed ops D
 YR:∀f,xP ops T D f->∀o,(T.h m).tr.get (T.h f).nx=some o->¬o.live
 le:m<=T.n
section
variable{E:Env}{r:Nat->yc}{x:AX}{Z:Array Oper}{T:wB}{Y:List DQ}
theorem acC(a:∀i,(r i).Up){j:Nat}(b:Step E r x Z (Region.before Z) T Y j):(T.h j).nx<=(T.h (j+1)).nx:=by
 obtain⟨o,_,_,h|h|h|h⟩:=b
 .rw[h.2.2.2.1];exact aj _
 .obtain⟨_,_,_,_,⟨h',h1,c,_⟩,_⟩:=h
  rw[c];exact Dt h1
 .rw[h.2.2.2.1];exact aj _
 .have:=SB (a j) (λq d=>Dt d) h.2.2.1
  rw[Jp]at this;exact this
theorem oh(c:∀i,(r i).Up)(d:∀j,j<T.n->Step E r x Z (Region.before Z) T Y j){a:Nat}:∀b,a<=b->b<=T.n->(T.h a).nx<=(T.h b).nx
 |0,h,_=>by have:a=0:=by omega
            subst this;exact aj _
 |b+1,h,e=>by
  rcases kK h with rfl|h
  .exact aj _
  .exact aS (oh c d b (by omega) (by omega)) (acC c (d b (by omega)))
theorem Rz{j:Nat}(b:Step E r x Z (Region.before Z) T Y j)(a:T.kind j=1):(T.h (j+1)).nx=(T.h j).nx+1:=by
 obtain⟨o,_,_,h|h|h|h⟩:=b
 .rw[h.1]at a;cases a
 .obtain⟨_,_,c,_,⟨h',h1,d,_⟩,_⟩:=h
  obtain⟨ob,rfl,_,_⟩:=Ad c h1;rw[d];exact(AH.mZ:((T.h j).new ob).nx=_)
 .rw[h.1]at a;cases a
 .rw[h.1]at a;cases a
theorem acG(a:∀i,(r i).Up)(b:∀j,j<T.n->Step E r x Z (Region.before Z) T Y j){f g:Nat}(c:f<T.n)(d:g<T.n)(e:T.kind f=1)(k:T.kind g=1)(h:(T.h f).nx=(T.h g).nx):f=g:=by
 rcases Nat.lt_trichotomy f g with l|m|p
 .have:=oh a b g (show f+1<=g by omega) (by omega)
  rw[Rz (b f c) e]at this;omega
 .exact m
 .have:=oh a b f (show g+1<=f by omega) (by omega)
  rw[Rz (b g d) k]at this;omega
theorem abX{j:Nat}(a:Step E r x Z (Region.before Z) T Y j)(b:T.kind j≠3):(T.h (j+1)).tr=(T.h j).tr∧(T.h (j+1)).df=(T.h j).df:=by
 obtain⟨o,_,_,h|h|h|h⟩:=a
 .rw[h.2.2.2.1];exact⟨rfl,rfl⟩
 .obtain⟨_,_,c,_,⟨h',h1,d,_⟩,_⟩:=h
  obtain⟨ob,rfl,_,_⟩:=Ad c h1;rw[d];exact⟨rfl,(AH.yM:((T.h j).new ob).df=_)⟩
 .rw[h.2.2.2.1];exact⟨rfl,rfl⟩
 .exact aX h.1 b
theorem ER(d:∀j,j<T.n->Step E r x Z (Region.before Z) T Y j){a:Nat}:∀b,a<=b->b<=T.n->(∀l,a<=l->l<b->T.kind l≠3)->(T.h b).tr=(T.h a).tr∧(T.h b).df=(T.h a).df
 |0,h,_,_=>by have:a=0:=by omega
              subst this;exact⟨rfl,rfl⟩
 |b+1,h,g,e=>by
  rcases kK h with rfl|h
  .exact⟨rfl,rfl⟩
  .have h1:=ER d b (by omega) (by omega) λl a c=>e l a (by omega)
   have f:=abX (d b (by omega)) (e b (by omega) (by omega));exact⟨f.1.trans h1.1,f.2.trans h1.2⟩
theorem Vg(R:lY Z)(h0:T.ps 0=[])(m:∀j,j<T.n->Step E r x Z (Region.before Z) T Y j):∀j,j<=T.n->∀e∈T.ps j,e.1<j∧T.kind e.1=1∧e.2.1=(T.h e.1).nx∧e.2.2=T.ob e.1∧∀l,l<j->T.kind l=3->¬Bf Z l e.1
 |0,_,e,a=>by rw[h0]at a;simp at a
 |j+1,hj,e,a=>by
  have p:=Vg R h0 m j (by omega);have up:∀e,e∈T.ps j->(T.kind j=3->¬Bf Z j e.1)->e.1<j+1∧T.kind e.1=1∧e.2.1=(T.h e.1).nx∧e.2.2=T.ob e.1∧∀l,l<j+1->T.kind l=3->¬Bf Z l e.1:=λe a b=>by
   obtain⟨h1,g,q,s,t⟩:=p e a;refine⟨by omega,g,q,s,λl u c=>?_⟩;rcases aT l j with h|h
   .exact t l h c
   .have:l=j:=by omega
    subst this;exact b c
  obtain⟨o,_,_,h|h|h|h⟩:=m j (by omega)
  .rw[h.2.2.2.2]at a;exact up e a λb=>by rw[h.1]at b;cases b
  .obtain⟨b,_,_,_,_,k⟩:=h
   rw[k]at a;rcases ay.1 a with rfl|a
   .refine⟨cZ _,b,rfl,rfl,λl u c d=>?_⟩
    have:=DK R l j d;omega
   .exact up e a λf=>by rw[b]at f;cases f
  .rw[h.2.2.2.2.1]at a;exact up e a λb=>by rw[h.1]at b;cases b
  .rw[h.2.2.2]at a
   obtain⟨h1,g⟩:=Qw _ _ _ a;exact up e h1 λ_ d=>by unfold Bf at d;rw[g]at d;cases d
theorem Ny(a:qB (Region.before Z) (nU T 0 T.n)=true){D:Nat->Bool}(d:Closed Z D){l b:Nat}(e:l<T.n)(c:b<l)(k:T.kind l=3)(k':T.kind b=3)(h:D l=true):D b=true:=
 IJ (f:=λp=>p.1) (IZ (C:=Closed Z) (λ_ h=>h) a) (Fv T 0 T.n) _ (Hw (bK _) (by omega) k') _ (Hw (bK _) (by omega) k) c D d h
theorem NG(T:wB):∀m,(∀l,l<m->T.kind l≠3)∨∃p,p<m∧T.kind p=3∧∀l,p<l->l<m->T.kind l≠3
 |0=> .inl λl h=>by omega
 |m+1=>by
  by_cases a:T.kind m=3
  .exact .inr ⟨m,by omega,a,λl h1 b=>by omega⟩
  .rcases NG T m with h|⟨p,h1,b,d⟩
   .exact .inl λl c=>by
     rcases aT l m with h'|h'
     .exact h l h'
     .have:l=m:=by omega
      subst this;exact a
   .exact .inr ⟨p,by omega,b,λl c e=>by
     rcases aT l m with h'|h'
     .exact d l c h'
     .have:l=m:=by omega
      subst this;exact a⟩
theorem ZY(F:∀j,j<T.n->Step E r x Z (Region.before Z) T Y j)(J:∀q∈Y,su E (Region.before Z) (nU T 0 T.n) (T.h 0) q=true)
 {D:Nat->Bool}{m:Nat}(G:m<=T.n)(H:∀l,l<T.n->T.kind l=3->(D l=true↔l<m))(L:Closed Z D){i:Nat}(hi:Ready Z D i){q:DQ}(t:q∈Y)(g:q.i=i):fD q.op E q.tm (T.h m)=some q.v:=by
 have h:=J q t;unfold su at h;rw[aF]at h;have fin:∀u:AH,u.tr=(T.h m).tr->EH E q u=true->fD q.op E q.tm (T.h m)=some q.v:=λu M d=>by
  unfold EH at d;rw[ZX M]at d;split at d
  .rename_i v N;rw[N,AV.beq_eq d]
  .cases d
 have b:∀l,l<T.n->T.kind l=3->m<=l->((Region.before Z).getD q.i 0).testBit l=false:=λl h1 y z=>by
  cases k:((Region.before Z).getD q.i 0).testBit l with
  |false=>rfl
  |true=>
   have:=(H l h1 y).1 (hi.ahead l (by rw[g]at k;exact k));omega
 rcases NG T m with I|⟨p,h1,y,z⟩
 .have e1:((nU T 0 T.n).any λp=>((Region.before Z).getD q.i 0).testBit p.1)=false:=by
   rw[List.any_eq_false];intro s a;obtain⟨_,A,c,_⟩:=vZ a;have e:m<=s.1:=by
    rcases aT s.1 m with h|h
    .exact aX c (I s.1 h)
    .exact h
   rw[b s.1 (by omega) c e];simp
  rw[e1]at h;exact fin (T.h 0) (ER F m (bK _) G λl _ B=>I l B).1.symm h.1
 .have d:=II h.2 (Fv T 0 T.n) (m:=m) (λs a e=>by
   obtain⟨_,A,c,_⟩:=vZ a;exact b s.1 (by omega) c e)
   (λs a f=>by
    obtain⟨_,A,c,_⟩:=vZ a;cases k:((Region.before Z).getD s.1 0).testBit q.i with
    |false=>rfl
    |true=>
     have:=L s.1 ((H s.1 (by omega) c).2 f) q.i k;rw[g,hi.no]at this;cases this)
   _ (Hw (bK _) (by omega) y) h1 (λs a f=>by
    obtain⟨_,A,c,_⟩:=vZ a;rcases aT p s.1 with h|h
    .exact aX c (z s.1 h f)
    .exact h)
  exact fin _ (ER F m (by omega) G λl O C=>z l (by omega) C).1.symm d
end
end
section
open Go.Conc (G)
variable{h:AH}{o:AO}{tm:Tr AV}{w w':World}{ι ι' ι0:Nm}
section
variable{P:Program}{Y:Bool}{K:Ctx}{E:Env}{r:Nat->yc}{x:AX}{Z:Array Oper}{T:wB}{Q:List DQ}{R:Nat}{S:List AD}{U:List Item}{V:List Frame}
structure Fix(P:Program)(Y:Bool)(E:Env)(r:Nat->yc)(x:AX)(Z:Array Oper)(T:wB)(Q:List DQ)(R:Nat):Prop where
 F:Fits P E
 FF:eU P E
 hr:∀i,i≠R->EL P Y E (r i)
 up:∀i,(r i).Up
 reg:lY Z
 ps0:T.ps 0=[]
 le:T.n<=Z.size
 st:∀j,j<T.n->Step E r x Z (Region.before Z) T Q j
 chain:qB (Region.before Z) (nU T 0 T.n)=true
 qok:∀q∈Q,su E (Region.before Z) (nU T 0 T.n) (T.h 0) q=true
theorem Fix.dst(X:Fix P Y E r x Z T Q R):∀j,j<T.n->T.tm (j+1)=fin x (rJ Z j) (T.v j) (T.tm j):=λj hj=>by
 obtain⟨o,h1,a,_⟩:=X.st j hj;rw[BP h1];exact a
theorem xP.zY{D:Nat->Bool}{i f:Nat}(d:f≠i)(h:xP Z T (xE D i) f):xP Z T D f:=
 ⟨h.1,by have:=h.2.1;rwa[pq d]at this,h.2.2.1,λl a b c=>h.2.2.2 l a b (P5 c)⟩
theorem Inv.next(X:Fix P Y E r x Z T Q R){D:Nat->Bool}{m:Nat}(I:Inv K ι0 Z T D m ι w){i:Nat}(hi:Ready Z D i)(a:i<T.n)(y:T.kind i≠3)(z:vJ K ι' (MD Z T (xE D i) m) w')(s:Grow ι ι' (T.h i).nx (T.h (i+1)).nx)
 (c:∀o,T.kind i=1->(T.h m).tr.get (T.h i).nx=some o->¬o.live):Inv K ι0 Z T (xE D i) m ι' w':=by
 have A:=I.free i a hi.no;refine⟨z,⟨I.grow.le,λj hj=>?_⟩,λj hj b=>?_,λl B d=>?_,I.closed.add hi,λf t o u=>?_,I.le⟩
 .have h1:=oh X.up X.st i (bK i) (iD a)
  have C:=oh X.up X.st T.n (show i+1<=T.n from a) (aj _);rw[s.same j (by omega),I.grow.same j hj]
 .have g:j≠i:=λe=>by subst e;rw[nM]at b;cases b
  rw[pq g]at b;have:=I.free j hj b;intro n p q;have k:n<(T.h i).nx∨(T.h (i+1)).nx<=n:=by
   rcases Nat.lt_or_gt_of_ne g with h|h
   .left;have:=oh X.up X.st i (show j+1<=i from h) (iD a);omega
   .right;have:=oh X.up X.st j (show i+1<=j from h) (iD hj);omega
  rw[s.same n k];exact this n p q
 .rw[pq (λe=>y (by rw[← e];exact d))];exact I.loud l B d
 .by_cases v:f=i
  .subst v;exact c o t.2.2.1 u
  .exact I.YR f (xP.zY v t) o u
def abT(K:Ctx)(ι0:Nm)(nx:Nat)(x:AX)(tm:Tr AV)(S:List AD)(Z:Array Oper)(a:List Nat)(U:List Item)(V:List Frame)(h':AH):Nat->Goroutine->World->Prop:=λd g w=>
 ∃ι' b,g=G b V∧Grow ι0 ι' nx h'.nx∧Sat K ι' h' w∧iC ι' x tm S Z a U b∧d=h'.df
theorem Inv.done(X:Fix P Y E r x Z T Q R){D:Nat->Bool}{m:Nat}(I:Inv K ι0 Z T D m ι w)(a:∀i,i<T.n->D i=true)(c:∀i,T.n<=i->D i=false){fr:Frame}{b:List Nat}(H:iC ι x (tH x Z T D Z.size) S Z b U fr):
 Walk P Y K (abT K ι0 (T.h 0).nx x (T.tm T.n) S Z b U V (pJ (T.ps T.n) (T.h T.n))) (T.h m).df (G fr V) w:=by
 have f:∀l,m<=l->l<T.n->T.kind l≠3:=λl h1 d q=>by have:=(I.loud l d q).1 (a l d);omega
 have g:=ER X.st T.n I.le (aj _) f;have s:Sat K ι (pJ (T.ps T.n) (T.h T.n)) w:=I.sat.QH λj o hj _=>by
  rcases Kr _ _ hj with h1|⟨e,t,h1,d⟩
  .left;rw[← g.1];exact h1
  .right
   obtain⟨k,u,v,y,z⟩:=Vg X.reg X.ps0 X.st T.n (aj _) e t;exact⟨e.1,⟨k,a e.1 k,u,λl A B _=>z l A B⟩,by rw[h1,v],by rw[d,y]⟩
 refine .stop λp hr=>⟨ι,fr,rfl,?_,s.rely hr,?_,?_⟩
 .rw[zf];exact I.grow
 .have h1:tH x Z T D Z.size=T.tm T.n:=by
   rw[show D=λj=>decide (j<T.n)from funext λj=>by
    rcases aT j T.n with h|h
    .rw[a j h];simp[h]
    .rw[c j h];simp;omega]
   rw[GN Z.size X.le];exact Ot X.dst T.n (aj _) λi hi=>by simp[hi]
  rw[h1]at H;exact H
 .rw[Np,g.2]
theorem aej{i:Nat}:(h.put i o).tr=h.tr.set i o:=by obtain⟨tr,nx,df⟩:=h;rfl
theorem Xg{ob:AO}(a:h.nx<1000000):(h.new ob).tr.get h.nx=some ob:=by
 rw[AH.Vm,aej,Tr.D5 a,aC rfl]
theorem Xf{ob:AO}(a:h.nx<1000000):(h.new ob).obj h.nx=ob:=by
 unfold AH.obj;rw[Xg a]
theorem iC.tmc(T':Tr AV){x:AX}{todo:List Nat}{fr:Frame}(H:iC ι x tm S Z todo U fr)(a:∀t,T'.get t=tm.get t):iC ι x T' S Z todo U fr:=
 ⟨H.fn,H.tm.congr a,H.todo,H.ds,H.mode,H.kind,H.round⟩
set_option maxHeartbeats 1000000 in
theorem aaU(X:Fix P Y E r x Z T Q R)(hP:Of K P E){Stop:Nat->Goroutine->World->Prop}{D:Nat->Bool}{m:Nat}(I:Inv K ι0 Z T D m ι w){i:Nat}(hi:Ready Z D i)(b:i<T.n)(his:i≠R){rest:List Nat}{fr:Frame}(H:pG ι x (tH x Z T D Z.size) S Z i rest U fr)
 (hgo:∀m' ι' w' J,Inv K ι0 Z T (xE D i) m' ι' w'->iC ι' x (tH x Z T (xE D i) Z.size) S Z rest U J->Walk P Y K Stop (T.h m').df (G J V) w'):
 Walk P Y K Stop (T.h m).df (G fr V) w:=by
 obtain⟨o,ho,htm,hst⟩:=X.st i b;have hlook:∀t∈o.looksAt Z,(tH x Z T D Z.size).get t=(T.tm i).get t:=λt ht=>Hz X.reg X.dst I.closed hi b ho ht;have A:dU o Z (tH x Z T D Z.size)=dU o Z (T.tm i):=Bz hlook;have B:Alike (tH x Z T D Z.size) (T.tm i) o.op.operands.toList:=Et hlook;have O:∀t,(tH x Z T (xE D i) Z.size).get t=(fin x o.dst (T.v i) (tH x Z T D Z.size)).get t:=Ou X.reg I.closed hi ho;have hfr:=I.free i b hi.no;rcases hst with⟨L,hw,hv,hh,hps⟩|⟨L,hw,hf,hnx,⟨h',hl,hh,hob⟩,hps⟩|⟨L,hw,hq,hh,hps,hrd⟩|⟨L,hw,hl,hps⟩
 .
  refine Walk.of rfl λc s=>?_;have hno:∀M,Z[i]? =some M->Region.wanted M (yielded Z fr.tmps)=false:=λM ho'=>by
   rw[ho]at ho';cases ho';exact jY H.tm (by rw[A];exact hw)
  refine⟨_,c,#[],y5 H hno,iG.refl c,?_⟩;have a:=I.sat.rely s;refine hgo m ι c _ (I.next X hi b (by rw[L];decide) (a.ad5 λj M hm _=>?_) (by rw[hh];exact Grow.refl _ _) (λM hk'=>by rw[L]at hk';cases hk')) ?_
  .rcases hm with h1|⟨f,h1,y⟩
   .exact .inl h1
   .have k:f≠i:=λe=>by subst e;have:=h1.2.2.1;rw[L]at this;cases this
    exact .inr ⟨f,xP.zY k h1,y⟩
  .have:=H.finish ho (Ext.refl ι) (v:=iw) lZ
   exact iC.tmc _ this (by rw[← hv];exact O)
 .
  obtain⟨ob,rfl,hlive,hany⟩:=Ad hf hl;obtain⟨hs,hs1,N,hs3⟩:∃hs:AH,hs.tr= .e∧hs.nx=(T.h i).nx∧hs.df=(T.h m).df:=⟨⟨.e,(T.h i).nx,(T.h m).df⟩,rfl,rfl,rfl⟩;have hl2:fQ o.op E (tH x Z T D Z.size) hs=some (.val (T.v i) (hs.new ob)):=by
   rw[Es B];exact hany hs N
  have hnx2:(T.h (i+1)).nx=(hs.new ob).nx:=by rw[hh];show((T.h i).new ob).nx=_;rw[AH.mZ,AH.mZ,N]
  have hobj:T.ob i=ob:=by rw[hob];exact Xf hnx
  have hget:(hs.new ob).tr.get (T.h i).nx=some ob:=by rw[← N];exact Xg (by rw[N];exact hnx)
  refine Walk.of rfl λc s=>?_;have a:=I.sat.rely s;have SL:=a.less (X:=λ_=>True) (h:=hs) (λj M e _=>by rw[hs1,Tr.fO]at e;cases e);have hgt:=Fq (main:=Y) (cs:=V) (K:=K.less ι (MD Z T D m) (λ_=>True) c a.lo a.lt) ⟨hP.P,hP.mem,hP.pk⟩ X.F SL H ho (jY H.tm (by rw[A];exact hw)) hl2;have hfr2:Free ι hs.nx (hs.new ob).nx:=by rw[← hnx2,N];exact hfr
  obtain⟨ι',J,w',es,g1,g2,g3,g4,g5,g6⟩:=hgt hfr2;have hE:Ext ι ι':=g2.ext hfr2;have u:Kept K (K.less ι (MD Z T D m) (λ_=>True) c a.lo a.lt) c w':=(Kept.refl _ _ _).fine g5;refine⟨_,w',es,g1,g5.sub uQ,?_⟩;have hdf:deafBehind (T.h m).df es=(T.h m).df:=by
   rw[← hs3,g6,AH.yM]
  rw[hdf];rw[N,← hnx2]at g2;refine hgo m ι' w' J (I.next X hi b (by rw[L];decide) (a.more g3 hE u λj M hm z=>?_) g2 (λM _ ho' z=>?_)) ?_
  .rcases hm with h1|⟨f,h1,y,h3⟩
   .exact .inr ⟨.inl h1,trivial⟩
   .by_cases k:f=i
    .subst k
     left;rw[y,h3,hobj];exact hget
    .exact .inr ⟨.inr ⟨f,xP.zY k h1,y,h3⟩,trivial⟩
  .obtain⟨p,_,e1,_⟩:=a.objs _ M (.inl ho') z
   have:=hfr (T.h i).nx (aj _) (by rw[hnx2,AH.mZ,N];exact cZ _);rw[this]at e1;cases e1
  .exact iC.tmc _ g4 O
 .
  have hq2:fD o.op E (tH x Z T D Z.size) (T.h m)=some (T.v i):=by
   rw[IG B];cases hrh:kG o.op with
   |true=>exact ZY (q:=⟨o.op,i,T.tm i,T.v i⟩) X.st X.qok I.le I.loud I.closed hi (hrd hrh) rfl
   |false=>rw[Q9 hrh (h':=T.h i)];exact hq
  refine Walk.of rfl λc s=>?_;have a:=I.sat.rely s;have SL:=a.less (X:=λj=>∃f,xP Z T D f∧j=(T.h f).nx) (h:=T.h m) (λj M e z=>⟨.inl e,λ⟨f,h1,y⟩=>I.YR f h1 M (by rw[← y];exact e) z⟩);have hgt:=quiet_step (main:=Y) (cs:=V) (K:=K.less ι (MD Z T D m) (λj=>∃f,xP Z T D f∧j=(T.h f).nx) c a.lo a.lt) ⟨hP.P,hP.mem,hP.pk⟩ X.F SL H ho (jY H.tm (by rw[A];exact hw)) hq2;obtain⟨ι',J,w',es,g1,g2,g3,g4,g5,g6⟩:=hgt (λj h1 y=>by omega);have hι:ι'=ι:=by funext j;exact g2.same j (by omega)
  subst hι;have u:Kept K (K.less ι' (MD Z T D m) (λj=>∃f,xP Z T D f∧j=(T.h f).nx) c a.lo a.lt) c w':=(Kept.refl _ _ _).fine g5;refine⟨_,w',es,g1,g5.sub uQ,?_⟩;rw[g6];refine hgo m ι' w' J (I.next X hi b (by rw[L];decide) (a.more g3 (Ext.refl _) u λj M hm z=>?_) (by rw[hh];exact Grow.refl _ _) (λM hk'=>by rw[L]at hk';cases hk')) ?_
  .rcases hm with h1|⟨f,h1,y,h3⟩
   .exact .inl h1
   .have k:f≠i:=λe=>by subst e;have:=h1.2.2.1;rw[L]at this;cases this
    exact .inr ⟨.inr ⟨f,xP.zY k h1,y,h3⟩,f,xP.zY k h1,y⟩
  .exact iC.tmc _ g4 O
 .
  have hmi:m<=i:=by
   rcases aT i m with h|h
   .have:=(I.loud i b L).2 h;rw[hi.no]at this;cases this
   .exact h
  have hDi:=I.closed.add hi;have hnl:∀l,m<=l->l<i->T.kind l≠3:=λl h1 y hkl=>by
   have:=Ny X.chain hDi b y L hkl (nM D i);rw[pq (by omega)]at this;have:=(I.loud l (by have:=b;omega) hkl).1 this;omega
  have htr:=ER X.st i hmi (iD b) hnl;have hpsm:=Vg X.reg X.ps0 X.st i (iD b);obtain⟨C,hw0e⟩:∃C:AH,C=(wake ((Region.before Z).getD i 0) (T.ps i) (T.h i)).1:=⟨_,rfl⟩;have hwnx:C.nx=(T.h i).nx:=by rw[hw0e];exact Jp _ _ _
  have hwdf:C.df=(T.h m).df:=by rw[hw0e];exact(Wh _ _ _).trans htr.2
  rw[← hw0e]at hl;have hl2:vP E (r i) C (fQ o.op E (tH x Z T D Z.size) C)=some (T.v i,T.h (i+1)):=by
   rw[Es B];exact hl
  have SL:=I.sat.less (X:=λj=>∃f,xP Z T D f∧¬Bf Z i f∧j=(T.h f).nx) (h:=C) (λj M e z=>by
   rw[hw0e]at e;rcases Qx _ _ _ e with h1|⟨q,hq,h1,y,h3⟩
   .rw[htr.1]at h1
    exact⟨.inl h1,λ⟨f,f1,_,f3⟩=>I.YR f f1 M (by rw[← f3];exact h1) z⟩
   .obtain⟨a1,a2,a3,a4,a5⟩:=hpsm q hq
    have hpq:xP Z T D q.1:=⟨by have:=b;omega,hi.ahead q.1 h1,a2,λl b1 b2 b3 hb=>by
     have hlm:=(I.loud l b1 b2).1 b3;exact a5 l (by omega) b2 hb⟩
    refine⟨.inr ⟨q.1,hpq,by rw[y,a3],by rw[h3,a4]⟩,λ⟨f,f1,f2,f3⟩=>?_⟩;have:f=q.1:=acG X.up X.st f1.1 hpq.1 f1.2.2.1 a2 (by rw[← f3,y,a3]);rw[this]at f2;exact f2 h1)
  have hfr':Free ι C.nx (T.h (i+1)).nx:=by rw[hwnx];exact hfr
  have W:=aau (main:=Y) (cs:=V) (K:=K.less ι (MD Z T D m) (λj=>∃f,xP Z T D f∧¬Bf Z i f∧j=(T.h f).nx) w I.sat.lo I.sat.lt) (X.hr i his) ⟨hP.P,hP.mem,hP.pk⟩ X.F X.FF SL H ho (jY H.tm (by rw[A];exact hw)) hl2 hfr';rw[← hwdf];refine Walk.bind (Walk.frame (K:=K) (Stop:=λd g w'=>Kept K (K.less ι (MD Z T D m) (λj=>∃f,xP Z T D f∧¬Bf Z i f∧j=(T.h f).nx) w I.sat.lo I.sat.lt) w w'∧sU (K.less ι (MD Z T D m) (λj=>∃f,xP Z T D f∧¬Bf Z i f∧j=(T.h f).nx) w I.sat.lo I.sat.lt) ι C.nx x (fin x o.dst (T.v i) (tH x Z T D Z.size)) S Z rest U V (T.h (i+1)) d g w') uQ W (Kept.refl _ _ _) λd g w' h1 y=>⟨h1,y⟩) ?_
  rintro d g w' ⟨u,ι',J,rfl,g2,g3,g4,rfl⟩
  have hE:Ext ι ι':=g2.ext hfr';rw[hwnx]at g2;refine hgo (i+1) ι' w' J ⟨I.sat.more g3 hE u λj M hm z=>?_,⟨I.grow.le,λj hj=>?_⟩,λj hj hDj=>?_,λl hl hkl=>⟨λhD=>?_,λhlt=>?_⟩,hDi,λf hf M ho' z=>?_,b⟩ (iC.tmc _ g4 O)
  .rcases hm with h1|⟨f,h1,y,h3⟩
   .exact .inl h1
   .have k:f≠i:=λe=>by subst e;have:=h1.2.2.1;rw[L]at this;cases this
    exact .inr ⟨.inr ⟨f,xP.zY k h1,y,h3⟩,f,xP.zY k h1,h1.2.2.2 i b L (nM D i),y⟩
  .have h1:=oh X.up X.st i (bK i) (iD b)
   have y:=oh X.up X.st T.n (show i+1<=T.n from b) (aj _);rw[g2.same j (by omega),I.grow.same j hj]
  .have k:j≠i:=λe=>by subst e;rw[nM]at hDj;cases hDj
   rw[pq k]at hDj;have:=I.free j hj hDj;intro n hn1 hn2;have hout:n<(T.h i).nx∨(T.h (i+1)).nx<=n:=by
    rcases Nat.lt_or_gt_of_ne k with h|h
    .left;have:=oh X.up X.st i (show j+1<=i from h) (iD b);omega
    .right;have:=oh X.up X.st j (show i+1<=j from h) (iD hj);omega
   rw[g2.same n hout];exact this n hn1 hn2
  .by_cases he:l=i
   .omega
   .rw[pq he]at hD
    have:=(I.loud l hl hkl).1 hD;omega
  .rcases aT l i with h|h
   .exact Ny X.chain hDi b h L hkl (nM D i)
   .have:l=i:=by omega
    subst this;exact nM D l
  .have k:f≠i:=λe=>by subst e;have:=hf.2.2.1;rw[L]at this;cases this
   have hobl:(T.ob f).live:=by
    obtain⟨of,hof,_,hsf⟩:=X.st f hf.1;have hkf:=hf.2.2.1;rcases hsf with h|⟨_,_,hff,hnx,⟨h',hl',_,hob⟩,_⟩|h|h
    .rw[h.1]at hkf;cases hkf
    .obtain⟨ob,rfl,hlive,_⟩:=Ad hff hl'
     rw[hob];have:((T.h f).new ob).obj (T.h f).nx=ob:=Xf hnx;rw[this];exact hlive
    .rw[h.1]at hkf;cases hkf
    .rw[h.1]at hkf;cases hkf
   exact I.sat.apart g3 hE (i:=(T.h f).nx) (o:=T.ob f) ⟨f,xP.zY k hf,hf.2.2.2 i b L (nM D i),rfl⟩ (.inr ⟨f,xP.zY k hf,rfl,rfl⟩) hobl ho' z
end
end
section
open Go.Conc (G)
theorem BG(ops:Array Oper)(a t:Nat)(listed:Array Bool):
 (Region.ready .any ops listed=[]∧Region.linearise.go .any ops (a+1) t listed []=[])∨
 ∃i∈Region.ready .any ops listed,Region.linearise.go .any ops (a+1) t listed []=i::Region.linearise.go .any ops a (t / (Region.ready .any ops listed).length) (listed.setIfInBounds i true) []:=by
 simp only[Region.linearise.go];change (Region.ready .any ops listed=[]∧(match(Region.ready .any ops listed)[t % (Region.ready .any ops listed).length]? with
  |some i=>Region.linearise.go .any ops a (t / (Region.ready .any ops listed).length) (listed.setIfInBounds i true) [i]
  |none=>[].reverse)=[])∨∃i∈Region.ready .any ops listed,(match(Region.ready .any ops listed)[t % (Region.ready .any ops listed).length]? with
  |some i=>Region.linearise.go .any ops a (t / (Region.ready .any ops listed).length) (listed.setIfInBounds i true) [i]
  |none=>[].reverse)=_
 cases hi:(Region.ready .any ops listed)[t % (Region.ready .any ops listed).length]? with
 |none=>
  left;refine⟨?_,rfl⟩;cases hr:Region.ready .any ops listed with
  |nil=>rfl
  |cons x b=>
   rw[hr]at hi;have c:t % (x::b).length<(x::b).length:=Nat.mod_lt _ (by simp);rw[mQ]at hi;omega
 |some i=>
  right;refine⟨i,bP hi,?_⟩;simp only[];rw[linearise_go_acc,List.reverse_singleton,List.singleton_append]
theorem mem_ready{ops:Array Oper}{listed:Array Bool}(h:listed.size=ops.size){i:Nat}:i∈Region.ready .any ops listed↔i<ops.size∧Dl listed i=false∧∃o,ops[i]? =some o∧∀e∈o.after,Region.binds .any e=true->Dl listed e.on=true:=by
 unfold Region.ready;rw[iR,iO,aF];have g:∀i,i<ops.size->listed.getD i true=Dl listed i:=λi hi=>by
  unfold Dl;rw[bg,bg,dI (by omega)];rfl
 constructor
 .rintro⟨h1,b,a⟩
  rw[g i h1]at b;obtain⟨o,c⟩:=GY h1;rw[c]at a;simp only[kD,qE,Array.all_eq_true_iff_forall_mem]at a;refine⟨h1,by simpa using b,o,c,λe d f=>?_⟩;have:=a e d;unfold Dl;simpa[f]using this
 .rintro⟨h1,b,o,c,a⟩
  refine⟨h1,by rw[g i h1,b];rfl,?_⟩;rw[c];simp only[kD,qE,Array.all_eq_true_iff_forall_mem];intro e d;cases f:Region.binds .any e with
  |false=>rfl
  |true=>have:=a e d f;unfold Dl at this;simpa using this
theorem LW{listed:Array Bool}{i:Nat}(hi:i<listed.size):Dl (listed.setIfInBounds i true)=xE (Dl listed) i:=by
 funext j;have e:∀l:Array Bool,Dl l j=l[j]?.getD false:=λl=>by unfold Dl;rw[bg]
 unfold xE;rw[e,e,Array.getElem?_setIfInBounds];by_cases h:i=j
 .subst h;simp[hi]
 .have:(j==i)=false:=by simp;omega
  simp[h,this]
theorem FH{n:Nat}{listed:Array Bool}{i:Nat}(hi:i<n)(f:listed.size=n)(c:Dl listed i=false):left' n (listed.setIfInBounds i true)<left' n listed:=by
 unfold left';rw[LW (by omega)];have a:((List.range n).filter λj=>xE (Dl listed) i j==false).Sublist ((List.range n).filter λj=>Dl listed j==false):=by
  have:((List.range n).filter λj=>xE (Dl listed) i j==false)=(((List.range n).filter λj=>Dl listed j==false).filter λj=>xE (Dl listed) i j==false):=by
   rw[List.filter_filter];refine List.filter_congr λj _=>?_;simp only[xE];cases Dl listed j<;>cases(j==i)<;>rfl
  rw[this];exact List.filter_sublist
 have e:=a.length_le;rcases aT ((List.range n).filter λj=>xE (Dl listed) i j==false).length ((List.range n).filter λj=>Dl listed j==false).length with h|h
 .exact h
 .have d:=a.eq_of_length_le h
  have b:i∈(List.range n).filter λj=>Dl listed j==false:=iR.2 ⟨iO.2 hi,by rw[c];rfl⟩;rw[← d]at b;have:=(iR.1 b).2;rw[nM]at this;cases this
section
variable{P:Program}{main:Bool}{K:Ctx}{E:Env}{r:Nat->yc}{x:AX}{Z:Array Oper}{T:wB}{U:List DQ}{Q:Nat}{V:List AD}{Y:List Item}{cs:List Frame}
theorem EI(R:lY Z){listed:Array Bool}(b:listed.size=Z.size)(h:Region.ready .any Z listed=[]):∀i,i<Z.size->Dl listed i=true:=by
 intro i;induction i using Nat.strongRecOn with
 |ind i c=>
  intro hi;cases d:Dl listed i with
  |true=>rfl
  |false=>
   obtain⟨o,a⟩:=GY hi;have:i∈Region.ready .any Z listed:=(mem_ready b).2 ⟨hi,d,o,a,λe f g=>by
    have:=R.edge i o a e f g;exact c e.on this (by omega)⟩
   rw[h]at this;simp at this
theorem Q5(R:lY Z){listed:Array Bool}(c:listed.size=Z.size)(d:Closed Z (Dl listed)){i:Nat}(h:i∈Region.ready .any Z listed):Ready Z (Dl listed) i:=by
 obtain⟨h1,f,o,g,j⟩:=(mem_ready c).1 h;refine⟨h1,f,λp hp=>?_⟩;obtain⟨e,k,l,a⟩:=Cb g hp;have b:=j e k l;rcases a with rfl|⟨_,a⟩
 .exact b
 .exact d e.on b p a
def UJ(K:Ctx)(ι0:Nm)(nx n:Nat)(x:AX)(tm:Tr AV)(V:List AD)(Z:Array Oper)(Y:List Item)(cs:List Frame)(h':AH):Nat->Goroutine->World->Prop:=λd g w=>
 ∃a,Left Z n a∧abT K ι0 nx x tm V Z a Y cs h' d g w
theorem XF(X:Fix P main E r x Z T U Q)(F:Of K P E)(q:∀i,T.n<=i->i<Z.size->∀j,j<T.n->Bf Z i j){ι0:Nm}:∀(a t:Nat) (listed:Array Bool) (m:Nat) (ι:Nm) (w:World) (fr:Frame),listed.size=Z.size->left' Z.size listed<=a->(∀i,T.n<=i->Dl listed i=false)->(∀i,i<T.n->Dl listed i=false->i≠Q)->
 Inv K ι0 Z T (Dl listed) m ι w->iC ι x (tH x Z T (Dl listed) Z.size) V Z (Region.linearise.go .any Z a t listed []) Y fr->
 Walk P main K (UJ K ι0 (T.h 0).nx T.n x (T.tm T.n) V Z Y cs (pJ (T.ps T.n) (T.h T.n))) (T.h m).df (G fr cs) w:=by
 intro a;induction a with
 |zero=>
  intro t listed m ι w fr e o c f I H;have b:∀i,i<T.n->Dl listed i=true:=λi hi=>by
   have z:i<Z.size:=jv hi X.le;cases k:Dl listed i with
   |true=>rfl
   |false=>
    have:i∈(List.range Z.size).filter λi=>Dl listed i==false:=iR.2 ⟨iO.2 z,by rw[k];rfl⟩;have:=List.length_pos_of_mem this;unfold left' at o;omega
  refine(I.done X b c H).mono λd g w' h=>⟨_,⟨0,t,listed,e,o,λi=>?_,rfl⟩,h⟩;rcases aT i T.n with h|h
  .rw[b i h];simp[h]
  .rw[c i h];simp;omega
 |succ a J=>
  intro t listed m ι w fr e o c f I H;by_cases b:∀i,i<T.n->Dl listed i=true
  .refine(I.done X b c H).mono λd g w' h=>⟨_,⟨a+1,t,listed,e,o,λi=>?_,rfl⟩,h⟩
   rcases aT i T.n with h|h
   .rw[b i h];simp[h]
   .rw[c i h];simp;omega
  .obtain⟨p,s,u⟩:∃p,p<T.n∧Dl listed p=false:=by
    refine Classical.byContradiction λL=>b λi hi=>?_;cases k:Dl listed i with
    |true=>rfl
    |false=>exact aX ⟨i,hi,k⟩ L
   rcases BG Z a t listed with⟨h1,v⟩|⟨i,h1,v⟩
   .have:=EI X.reg e h1 p (jv s X.le)
    rw[u]at this;cases this
   .rw[v]at H
    have hi:=Q5 X.reg e I.closed h1;have y:i<T.n:=by
     rcases aT i T.n with h|h
     .exact h
     .have:=hi.ahead p (q i h hi.lt p s)
      rw[u]at this;cases this
    have M:pG ι x (tH x Z T (Dl listed) Z.size) V Z i (Region.linearise.go .any Z a (t / (Region.ready .any Z listed).length) (listed.setIfInBounds i true) []) Y fr:=⟨H.fn,H.tm,H.todo,H.ds,H.mode,H.kind,H.round⟩;refine aaU X F I hi y (f i y hi.no) M λN ι' w' A B C=>?_;have k:=LW (listed:=listed) (i:=i) (by rw[e];exact hi.lt);rw[← k]at B C;refine J _ _ N ι' w' A (by simp[e]) (by have:=FH hi.lt e hi.no;omega) (λl o=>?_) (λl h1 v=>?_) B C
    .rw[k,pq (by omega)]
     exact c l o
    .refine f l h1 ?_
     rw[k]at v;by_cases D:l=i
     .subst D;exact hi.no
     .rwa[pq D]at v
theorem NS(F:Fits P E)(FF:eU P E)(hr:∀i,EL P main E (r i))(b:∀i,(r i).Up){n:Nat}(u:n<=Z.size)(k:∀i,n<=i->i<Z.size->∀j,j<n->Bf Z i j){ι:Nm}{w:World}{tm c:Tr AV}{t:Nat}{fr:Frame}{h h':AH}(A:Of K P E)(S:Sat K ι h w)
 (H:iC ι x tm V Z (Region.linearise .any Z t) Y fr)(m:wS Z.toList (Region.before Z) Z=true)(e:uJ E r x (Region.before Z) Z h (Z.toList.take n) 0 tm [] [] [] h=some (c,h'))(v:Free ι h.nx h'.nx):
 Walk P main K (UJ K ι h.nx n x c V Z Y cs h') h.df (G fr cs) w:=by
 have R:=Fb m;obtain⟨T,U,t0,t1,t2,t3,t4,_,t6,y,z⟩:=QX u (Z.toList.take n) 0 tm [] [] [] h _ (bK _) rfl e;subst t0;simp only[List.reverse_nil,iE,Nat.sub_zero]at t6 y;have X:Fix P main E r x Z T U Z.size:=⟨F,FF,λi _=>hr i,b,R,t3,u,λj hj=>t4 j (bK _) hj,t6,by rw[t2];exact y⟩;have e1:c=T.tm T.n:=(rU z).1;have e2:h'=pJ (T.ps T.n) (T.h T.n):=(rU z).2;subst e1;subst e2;have d:Dl (Array.replicate Z.size false)=λ_=>false:=by
  funext j;unfold Dl;rw[bg,Array.getElem?_replicate];split<;>rfl
 have p:∀f,¬xP Z T (λ_=>false) f:=λf hp=>by have:=hp.2.1;cases this
 have q:Free ι (T.h 0).nx (T.h T.n).nx:=by rw[t2];rw[zf]at v;exact v
 have g:=oh b X.st (a:=0) T.n (bK _) (aj _);have I:Inv K ι Z T (Dl (Array.replicate Z.size false)) 0 ι w:=by
  rw[d];refine⟨S.toM λi o B _=>?_,⟨g,λ_ _=>rfl⟩,λj hj _=>?_,(λl _ _=>⟨λh=>(by cases h),λh=>(by omega)⟩),(λi hi=>(by cases hi)),(λf hp=>aX hp (p f)),bK _⟩
  .rcases B with h1|⟨f,h1,_⟩
   .rw[t2]at h1;exact h1
   .exact aX h1 (p f)
  .have h1:=oh b X.st j (bK j) (iD hj)
   have C:=oh b X.st T.n (show j+1<=T.n from hj) (aj _);exact q.sub h1 C
 have D:iC ι x (tH x Z T (Dl (Array.replicate Z.size false)) Z.size) V Z (Region.linearise.go .any Z Z.size t (Array.replicate Z.size false) []) Y fr:=by
  refine iC.tmc _ H λs=>?_;rw[d];have:∀n,tH x Z T (λ_=>false) n=tm:=by
   intro n;induction n with
   |zero=>exact t1
   |succ n J=>exact J
  rw[this]
 have W:=XF (cs:=cs) X A k Z.size t (Array.replicate Z.size false) 0 ι w fr (by simp) (by
  unfold left';exact aS (List.length_filter_le _ _) (by simp)) (λi _=>by rw[d]) (λi h1 _=>by have:=X.le;omega) I D
 rw[t2]at W;exact W
theorem SG{b:List Nat}(h:Left Z Z.size b):b=[]:=by
 obtain⟨a,t,listed,d,_,e,rfl⟩:=h;cases a with
 |zero=>rfl
 |succ a=>
  rcases BG Z a t listed with⟨_,f⟩|⟨i,h1,_⟩
  .exact f
  .obtain⟨g,c,_⟩:=(mem_ready d).1 h1
   rw[e i]at c;simp at c;omega
theorem JH(F:Fits P E)(FF:eU P E)(hr:∀i,EL P main E (r i))(b:∀i,(r i).Up):abS P main E r:=by
 intro K ι w x tm V Z t Y fr cs h l h' m S H a e n;have f:Z.toList=Z.toList.take Z.size:=by rw[eP (by simp)]
 rw[f]at e;refine(NS F FF hr b (aj _) (λi h1 y=>by omega) m S H (by rw[← f]at*;exact a) e n).mono λd g w' o=>?_;obtain⟨j,p,ι',c,q,s,u,k,v⟩:=o;rw[SG p]at k;exact⟨ι',c,q,s,u,k,v⟩
theorem runF_ok(F:Fits P E)(FF:eU P E)(n:Nat):CB P E main (vW E n):=by
 induction n with
 |zero=>intro K ι w fr c a f h v h' _ e;cases e
 |succ n b=>exact QM F FF b (Js n) (JH F FF (λ_=>Jv b FF) (λ_=>Di (Js n)))
end
end
section
open Go.Conc (G)
variable{es:Array Event}{f':AF}{fn:FuncId}{w:World}
inductive T1 where
 |go (f:AF)
 |call (f:AF) (dst:Option Tmp) (g:FuncId) (args:List AV)
 |dcall (f:AF) (g:FuncId) (args:List AV)
 |conv (f:AF) (dst:Option Tmp) (id off:Nat)
 |spawn (f:AF) (g:FuncId) (args:List AV)
 |ret (v:AV)
noncomputable def resT(tm:Tr AV):List ResultVar->Option (List AV)
 |[]=>some []
 | .tmp t::l=>(match resT tm l with |some r=>some (ev tm (.tmp t)::r)|none=>none)
 | .cell _ _::_=>none
def F7:AH:=⟨.e,0,0⟩
noncomputable def abl(x:AX)(tm:Tr AV)(td:List AI)(ds:List AD)(d:Option Tmp):Option OR->Option T1
 |some (.call g args)=>some (.call ⟨x,tm,td,ds,false⟩ d g args)
 |_=>none
noncomputable def opT(E:Env)(x:AX)(tm:Tr AV)(td:List AI)(ds:List AD)(o:Oper):Option T1:=
 match(cond (kG o.op) none (fD o.op E.blind tm F7))with
 |some v=>some (.go ⟨x,fin x o.dst v tm,td,ds,false⟩)
 |none=>match o.op with
  | .call c=>(match c.callee with | .value _=>abl x tm td ds o.dst (fQ o.op E tm F7)|_=>none)
  | .convert s d y=>(match E.d s,E.d d,ev tm y with
    |some (.ptr e),some .Oq,.ptr id off=>(match E.tt.get e with
     |some ti=>cond (Nat.beq ti.size 0) none (some (.conv ⟨x,tm,td,ds,false⟩ o.dst id off))
     |none=>none)
    |_,_,_=>none)
  | .defer _=>(match x.round,fQ o.op E tm F7 with
    |none,some (.yU a)=>some (.go ⟨x,fin x o.dst iw tm,td,a::ds,false⟩)
    |_,_=>none)
  | .go c=>(match c.callee with
    | .value g=>(match ev tm g with
      | .fn f a b=>some (.spawn ⟨x,fin x o.dst iw tm,td,ds,false⟩ f (a++evs tm c.args.toList++b))
      |_=>none)
    |_=>none)
  |_=>none
noncomputable def OJ(E:Env)(x:AX)(tm:Tr AV)(ds:List AD)(k:List AI)(ops:Array Oper)(o:Oper)(a:List Oper):Option T1:=
 match dU o ops tm with
 |some true=>opT E x tm (NM ops a k) ds o
 |some false=>some (.go ⟨x,fin x o.dst iw tm,NM ops a k,ds,false⟩)
 |none=>none
def goT:Option A1->Option T1
 |some (.go f _)=>some (.go f)
 |_=>none
def Hl(x:AX):Code->Bool
 | .rangeFunc .. =>false
 | .region _ _ a=> !a
 | .ret| .exit _| .goto _=>x.round.isNone
 | .refuse _=>false
 |_=>true
noncomputable def stepT(E:Env)(f:AF):Option T1:=
 match f with
 |⟨x,tm,td,ds,true⟩=>(match ds with
  |d::b=>(match d.f with
   | .fn g first cap=>some (.dcall ⟨x,tm,td,b,true⟩ g (first++d.args++cap))
   |_=>none)
  |[]=>(match E.ft.get x.fn with
   |some ⟨some _,_,e,_⟩=>(match resT tm e with
    |some [v]=>some (.ret v)
    |some l=>some (.ret (.gI l))
    |none=>none)
   |_=>none))
 |⟨x,tm,[],ds,false⟩=>(match x.round with |none=>some (.go ⟨x,tm,[],ds,true⟩)|some _=>none)
 |⟨x,tm,i::k,ds,false⟩=>(match i with
  | .code c=>cond (Hl x c) (goT (Ld E c k x tm ds F7)) none
  | .inBlock _=>some (.go ⟨x,tm,k,ds,false⟩)
  | .inScope _=>some (.go ⟨x,tm,k,ds,false⟩)
  | .inLoop body=>some (.go ⟨x,tm,.code body:: .inLoop body::k,ds,false⟩)
  | .inRegion ops l=>(match l with
    |[]=>some (.go ⟨x,tm,k,ds,false⟩)
    |o::a=>OJ E x tm ds k ops o a)
  |_=>none)
def Still(P:Program)(main:Bool)(fr:Frame)(cs:List Frame)(w:World)(a:Frame):Prop:=
 ∃es,stepG P main (G fr cs) w= .go (G a cs) w es∧∀e∈es,e.loc= .mark .noRoom
def EJ(ι:Nm)(f:AF)(dst:Option Tmp)(fr:Frame):Prop:=∀v u,RV ι v u->RF ι ⟨f.x,fin f.x dst v f.tm,f.todo,f.ds,false⟩ (fr.finish u)
def Gx(P:Program)(main:Bool)(fr:Frame)(cs:List Frame)(w:World)(g:FuncId)(vs:Array Value)(back:Value->Frame):Prop:=
 ∀u w' es,ak P (callFunc g vs) w (.value u) w' es->stepG P main (G fr cs) w= .go (G (back u) cs) w' (seen P fr.fn es.toArray)
def abL(P:Program)(main:Bool)(E:Env)(ι:Nm)(fr:Frame)(cs:List Frame):T1->Prop
 | .go f'=>∀w,∃a,Still P main fr cs w a∧RF ι f' a
 | .call f' d g args=>EJ ι f' d fr∧fr.mode= .run∧∃vs:Array Value,dS ι args vs.toList∧∀w,
  (∀c n f x,E.ft.get g=some ⟨some c,n,f,x⟩->stepG P main (G fr cs) w= .go (G (Frame.enter P g vs .normal) (fr::cs)) w #[])∧
  Gx P main fr cs w g vs (λu=>fr.finish u)∧
  (∀w2 es,(callFunc g vs).runT P w #[]=(.halt .blocked w2,es)->stepG P main (G fr cs) w= .go { G fr cs with status:= .blocked } w2 #[])
 | .dcall f' g args=>∃(vs:Array Value) (a:Frame),dS ι args vs.toList∧RF ι f' a∧a.mode= .returning∧a.fn=fr.fn∧∀w,
  (∀c n f x,E.ft.get g=some ⟨some c,n,f,x⟩->stepG P main (G fr cs) w= .go (G (Frame.enter P g vs .deferred) (a::cs)) w #[])∧
  (∀u w' es,ak P (callFunc g vs) w (.value u) w' es->stepG P main (G fr cs) w= .go (G a cs) w' (seen P fr.fn es.toArray))
 | .conv f' d id off=>EJ ι f' d fr∧∃p,ι id=some p∧∀w (c:Array Value) (T:TypeId) (fz:Nat×Nat),w.heap[p.1]? =some (.cells c T fz)->off<c.size->
  ∃es,stepG P main (G fr cs) w= .go (G (fr.finish (.pointer (some ⟨p.1,off,none⟩))) cs) w es∧∀e∈es,e.loc= .mark .noRoom
 | .spawn f' g args=>∃(h as b:Array Value),dS ι args ((h++as)++b).toList∧∃a,RF ι f' a∧
  ∀w,stepG P main (G fr cs) w= .spawn (G a cs) (Conc.born P { target:= .fn (.func g) b,args:=h++as }) w #[]
 | .ret v=>∃u,RV ι v u∧∀w,stepG P main (G fr cs) w=GStep.after #[] (doReturn P main fr cs none u w)
section
variable{P:Program}{Z:Bool}{E:Env}{U:Nm}{x:AX}{X:Tr AV}{W:List AD}{Y:Frame}{V:List Frame}
def here(P:Program)(w:World):Ctx:=⟨P,w,λb=>b<w.heap.size,w.heap.size,λb=>w.heap.size<=b,λ_ h=>h,False⟩
theorem ZN(P:Program)(U:Nm)(w:World):Sat (here P w) U F7 w:=
 ⟨(λi o e=>(by rw[show F7.tr.get i=none from Tr.fO i]at e;cases e)),(λi j o a p q e=>(by rw[show F7.tr.get i=none from Tr.fO i]at e;cases e)),aj _,λ_ h=>h,λ_ _=>rfl,rfl,rfl,rfl,λh=>h.elim⟩
theorem ac1{P:Program}{e:Event}(h:zM (here P w) w.heap.size e):e.loc= .mark .noRoom∨∃f,e.loc= .mark (.extern f):=by
 obtain⟨c,wr,d⟩:=e;cases c with
 |cell a=>
  have h1:=h.1;have b:=h.2;simp only[here]at h1;rcases h1 with h1|h1
  .omega
  .exact h1.1.elim
 |obj r=>have h1:=h.1;have b:=h.2.2.1;simp only[here]at h1;omega
 |mark m=>
  cases m with
  |acquire a=>have h1:=h.1;have b:=h.2.2;simp only[here]at h1;omega
  |release a=>have h1:=h.1;have b:=h.2.2;simp only[here]at h1;omega
  |releaseMerge a=>have h1:=h.1;have b:=h.2.2;simp only[here]at h1;omega
  |read a=>have h1:=h.1;have b:=h.2.2;simp only[here]at h1;omega
  |write a=>have h1:=h.1;have b:=h.2.2;simp only[here]at h1;omega
  |disable=>exact h.elim
  |enable=>exact h.elim
  |extern f=>exact .inr ⟨f,rfl⟩
  |noRoom=>exact .inl rfl
 |output=>exact h.elim
 |goroutines=>exact h.elim
theorem Je(b:FuncId->Bool):∀(l:List Event) (q:Bool) (kept:Array Event) (e:Event),e∈(l.foldl (Conc.seenStep b) (q,kept)).2->e∈kept∨∀f,e.loc≠.mark (.extern f):=by
 intro l;induction l with
 |nil=>exact λ_ _ _ h=> .inl h
 |cons a l d=>
  intro q kept e h;simp only[kY,Conc.seenStep]at h;split at h
  .exact d _ _ _ h
  .rename_i c
   rcases d _ _ _ h with h|h
   .split at h
    .exact .inl h
    .rcases Array.mem_push.1 h with h|rfl
     .exact .inl h
     .exact .inr λf g=>c f g
   .exact .inr h
theorem U8{P:Program}{e:Event}(h:e∈seen P fn es):∀f,e.loc≠.mark (.extern f):=by
 rw[Conc.seen_def]at h;rcases Je _ es.toList _ #[] e h with h|h
 .simp at h
 .exact h
theorem Yj{P:Program}{es:List Event}(h:∀e∈es,zM (here P w) w.heap.size e):∀e∈seen P fn es.toArray,e.loc= .mark .noRoom:=λe a=>by
 rcases ac1 (h e (by simpa using Conc.mem_seen a))with h1|⟨f,h1⟩
 .exact h1
 .exact aX h1 (U8 a f)
theorem JY(a:Y.mode= .run){l:List Item}(b:∀w,stepG.exec P Z true Y V none w= .go (G { Y with todo:=l } V) w)(w:World):Still P Z Y V w { Y with todo:=l }:=
 ⟨#[],by have:=b w;simp[G,stepG,a]at this ⊢;rw[this],by simp⟩
theorem Z8(F:Fits P E)(FF:eU P E){c:Code}{k:List AI}(R:RF U ⟨x,X,.code c::k,W,false⟩ Y)(hp:Hl x c=true)(e:goT (Ld E c k x X W F7)=some (.go f'))(w:World):∃d,Still P Z Y V w d∧RF U f' d:=by
 have z:Y.mode= .run:=by simpa using R.mode
 obtain⟨i,k',h,rfl,j⟩:=R.todo;have mk:∀{l:List Item} {td:List AI},(∀w,stepG.exec P Z true Y V none w= .go (G { Y with todo:=l } V) w)->Gy U td l->f'=⟨x,X,td,W,false⟩->∃d,Still P Z Y V w d∧RF U f' d:=λr B u=>⟨_,JY z r w,by rw[u];exact R.to B⟩;have o:x.round=none->(∀w,stepG.exec P Z true Y V none w= .go (G { Y with mode:= .returning } V) w)->f'=⟨x,X,.code c::k,W,true⟩->∃d,Still P Z Y V w d∧RF U f' d:=λ_ r u=>
  ⟨{ Y with mode:= .returning },⟨#[],by have:=r w;simp[G,stepG,z]at this ⊢;rw[this],by simp⟩,by rw[u];exact⟨R.fn,R.tm,R.todo,R.ds,rfl,R.kind,R.round⟩⟩
 cases c with
 |skip=>cases e;exact mk (l:=k') (λw=>by unfold stepG.exec;simp only[h];rfl) j rfl
 |label n=>cases e;exact mk (l:=k') (λw=>by unfold stepG.exec;simp only[h];rfl) j rfl
 |ret=>
  have m:x.round=none:=by simpa[Hl]using hp
  have hr:Y.roundOf=none:=by have:=R.round;simp only[m]at this;exact this
  have e:goT (mP x X (.code .ret::k) W F7 (some .ret))=some (.go f'):=e;unfold mP at e;simp only[m,goT]at e;cases e;exact o m (λw=>by unfold stepG.exec;simp only[h,hr];rfl) rfl
 |seq a b=>cases e;exact mk (td:= .code a:: .code b::k) (l:= .code a:: .code b::k') (λw=>by unfold stepG.exec;simp only[h];rfl) (.cons rfl (.cons rfl j)) rfl
 |cond c a b=>
  have e:goT (match ev X c with
   | .bool t=>some (A1.go ⟨x,X,.code (cond t a b)::k,W,false⟩ F7)
   |_=>none)=some (.go f'):=e
  cases A:ev X c<;>rw[A]at e<;>try (cases e;done)
  rename_i t;cases e;have q:=R.tm.ev Y rfl c;rw[A]at q;have q:Y.eval c= .bool t:=qQ q;exact mk (td:= .code (cond t a b)::k) (l:= .code (if t then a else b)::k') (λw=>by unfold stepG.exec;simp only[h,q];rfl) (.cons (i:= .code (if t then a else b)) (by cases t<;>rfl) j) rfl
 |block id body=>cases e;exact mk (td:= .code body:: .inBlock id::k) (l:= .code body:: .inBlock id::k') (λw=>by unfold stepG.exec;simp only[h];rfl) (.cons rfl (.cons rfl j)) rfl
 |loop body=>cases e;exact mk (td:= .code body:: .inLoop body::k) (l:= .code body:: .inLoop body::k') (λw=>by unfold stepG.exec;simp only[h];rfl) (.cons rfl (.cons rfl j)) rfl
 |scope body=>cases e;exact mk (td:= .code body:: .inScope body::k) (l:= .code body:: .inScope body::k') (λw=>by unfold stepG.exec;simp only[h];rfl) (.cons rfl (.cons rfl j)) rfl
 |exit id=>
  have m:x.round=none:=by simpa[Hl]using hp
  have hr:Y.roundOf=none:=by have:=R.round;simp only[m]at this;exact this
  have e:goT (match AP id k with
   |some k'=>some (A1.go ⟨x,X,k',W,false⟩ F7)
   |none=>mP x X (.code (.exit id)::k) W F7 (some (.exit id)))=some (.go f'):=e
  cases f:AP id k with
  |some C=>
   rw[f]at e;cases e;obtain⟨v,h1,y⟩:=pY f j;exact mk (l:=v) (λw=>by unfold stepG.exec;simp only[h,h1];rfl) y rfl
  |none=>
   rw[f]at e;unfold mP at e;simp only[m,goT]at e;cases e
 |goto l=>
  have m:x.round=none:=by simpa[Hl]using hp
  have e:goT (match AB l k with
   |some k'=>some (A1.go ⟨x,X,k',W,false⟩ F7)
   |none=>mP x X (.code (.goto l)::k) W F7 (some (.goto l)))=some (.go f'):=e
  cases f:AB l k with
  |some C=>
   rw[f]at e;cases e;obtain⟨v,h1,y⟩:=pX f j;exact mk (l:=v) (λw=>by unfold stepG.exec;simp only[h,h1];rfl) y rfl
  |none=>
   rw[f]at e;unfold mP at e;simp only[m,goT]at e;cases e
 |rangeFunc g ps a b=>cases hp
 |region id ops p=>
  cases p with
  |false=>cases e;exact mk (td:=NM ops ops.toList k) (l:= .inRegion ops (List.range ops.size)::k') (λw=>by unfold stepG.exec;simp only[h];rfl) (.cons ⟨0,rfl,rfl⟩ j) rfl
  |true=>cases hp
 |refuse s=>cases hp
end
end
section
open Go.Conc (G)
variable{es:Array Event}{gop:Operand}{j:Nat}{ops:Array Oper}{w w2:World}
section
variable{P:Program}{main:Bool}{E:Env}{Y:Nm}{x:AX}{X:Tr AV}{W:List AD}{Z:Frame}{cs:List Frame}
theorem Ej{ρ:Operand->Value}{c:Call}{ty:TypeId}{a:Operand}(d:c.callee= .value a){i:FuncId}{b cc:Array Value}(e:ρ a= .func (.func i) b cc)(w:World):
 ak P (resolve ρ c ty) w { target:= .fn (.func i) cc,args:=b++c.args.map ρ } w []:=by
 unfold resolve;rw[d];simp only[e];exact ak.pure _
theorem MR{Z:Frame}(a:(Z.kind==CallKind.early)=false){s:Sem Next}(h:s.runT P w #[]=(.halt .blocked w2,es)):stepG.apply P true Z cs none s w= .go { G Z cs with status:= .blocked } w2 #[]:=by
 unfold stepG.apply;simp only[if_true,h,a];simp[GStep.after,G,seen]
theorem abk(FF:eU P E){a:List Oper}{k:List AI}{k':List Item}(H:pG Y x X W ops j ((List.range ops.size).drop (j+1)) k' Z){o:Oper}(m:ops[j]? =some o)
 (f:a=ops.toList.drop (j+1))(F:Gy Y k k')(p:Region.wanted o (yielded ops Z.tmps)=true){c:Call}(g:o.op= .call c)(B:c.callee= .value gop){r:T1}
 (e:abl x X (NM ops a k) W o.dst (fQ o.op E X F7)=some r):abL P main E Y Z cs r:=by
 rw[g]at e;have e:abl x X (NM ops a k) W o.dst (D8 c E X F7)=some r:=e;unfold D8 at e;rw[B]at e;simp only at e;have q:Z.roundOf=none∨∀c,o.op≠.defer c:= .inr λI h=>by rw[g]at h;cases h
 unfold XL at e;split at e
 .rename_i i first cap hv
  cases e;have C:=H.U9 gop;rw[hv]at C;obtain⟨D,cc,s,G,t⟩:=yP C;have l:dS Y (evs X c.args.toList) (c.args.map Z.eval).toList:=by simpa using wC H.U9 c.args.toList
  have b:∀w,(execOp Z.eval o).runT P w #[]=(callFunc i ((D++c.args.map Z.eval)++cc)).runT P w #[]:=λw=>by
   unfold execOp;rw[g];simp only;exact ak.Bc (Ej B s w) (λd=>invoke d.target d.args) #[]
  refine⟨λv u y=>(H.finish m (Ext.refl Y) y).rf F f,H.mode,(D++c.args.map Z.eval)++cc,?_,λw=>⟨λJ n K ex z=>?_,λu w' es A=>?_,λw2 es A=>?_⟩⟩
  .simp only[dP]
   exact(G.append l).append t
  .exact Nv FF H m p q (b w) z
  .rw[oQ H m p q,uX (b w)]
   exact wz H A (v:= .any) (ι':=Y) (by unfold Yields RV;trivial)
  .rw[oQ H m p q,uX (b w)]
   exact MR (jQ H.kind) A
 .cases e
 .cases e
theorem aa8(F:Fits P E){s d el:TypeId}(a:E.d s=some (.ptr el))(e:E.d d=some .Oq){ti:TI}(g:E.tt.get el=some ti)(h:ti.size≠0){w:World}{b off:Nat}{c:Array Value}{T:TypeId}{fz:Nat×Nat}(f:w.heap[b]? =some (.cells c T fz))(i:off<c.size):
 ak P (convert s d (.pointer (some ⟨b,off,none⟩))) w (.pointer (some ⟨b,off,none⟩)) w []:=by
 unfold convert;refine ak.aG (ak.underlying (uU F a)) ?_;refine ak.aG (ak.underlying (wK F e)) ?_;unfold Conv.unsafePointer;refine ak.aG (ak.underlying (uU F a)) ?_;refine ak.aG (ak.underlying (wK F e)) ?_;refine ak.aG (Cm f) ?_;refine ak.aG (Gs f) ?_;refine ak.aG (dW (lI F g)) ?_;simp only[h,decide_false,Bool.false_or,Option.isNone_none,Bool.and_true];have j:¬(c.size<=off):=by omega
 simp[j];exact ak.pure _
theorem VB(F:Fits P E):Fits P E.blind:=by
 obtain⟨⟩:=F;constructor<;>assumption
theorem aey(F:Fits P E)(FF:eU P E){C:List Oper}{k:List AI}{k':List Item}(H:pG Y x X W ops j ((List.range ops.size).drop (j+1)) k' Z){o:Oper}(A:ops[j]? =some o)
 (l:C=ops.toList.drop (j+1))(O:Gy Y k k')(Q:Region.wanted o (yielded ops Z.tmps)=true){r:T1}(e:opT E x X (NM ops C k) W o=some r):abL P main E Y Z cs r:=by
 unfold opT at e;split at e
 .rename_i v t
  cases e;have V:fD o.op E.blind X F7=some v:=by
   cases hr:kG o.op with
   |true=>rw[hr]at t;cases t
   |false=>rw[hr]at t;exact t
  have R:Z.roundOf=none∨∀c,o.op≠.defer c:= .inr λc z=>by rw[IV z]at V;cases V
  intro w;obtain⟨u,es,h1,N,h3⟩:=Q8 (K:=here P w) (E:=E.blind) ⟨rfl,λ_ _ _ e=>(by cases e),λh=>(by cases h)⟩ (VB F) (ZN P Y w) H.U9 V;refine⟨Z.finish u,⟨seen P Z.fn es.toArray,?_,Yj h3⟩,(H.finish A (Ext.refl Y) N).rf O l⟩;rw[oQ H A Q R];exact wz H h1 (v:=v) (ι':=Y) N
 .split at e
  .rename_i c m
   split at e
   .rename_i g z
    exact abk FF H A l O Q m z e
   .cases e
  .rename_i s d y m
   split at e
   .rename_i el id off hs hdd t
    split at e
    .rename_i ti ht
     cases U:Nat.beq ti.size 0 with
     |true=>rw[U]at e;cases e
     |false=>
      rw[U]at e;cases e;have hz':ti.size≠0:=λh=>by rw[h]at U;cases U
      have R:Z.roundOf=none∨∀c,o.op≠.defer c:= .inr λc z=>by rw[m]at z;cases z
      have hy:=H.U9 y;rw[t]at hy;obtain⟨p,hp,hyv⟩:=jF hy;refine⟨λv u hv'=>(H.finish A (Ext.refl Y) hv').rf O l,p,hp,λw c T fz hb hlt=>?_⟩;have n:=aa8 (P:=P) F hs hdd ht hz' hb hlt;have hx:ak P (execOp Z.eval o) w (.value (.pointer (some ⟨p.1,off,none⟩))) w []:=by
       unfold execOp;rw[m];simp only[hyv];have:=ak.bind (e2:=[]) n (ak.pure (P:=P) (w:=w) (Next.value (.pointer (some ⟨p.1,off,none⟩)))) (f:=λv=>Pure.pure (Next.value v));simpa using this
      refine⟨#[],?_,by simp⟩;rw[oQ H A Q R];have:=wz (cs:=cs) H hx (v:= .any) (ι':=Y) (by unfold Yields RV;trivial);rw[this];rfl
    .cases e
   .cases e
  .rename_i c m
   split at e
   .rename_i a hr D
    cases e;have hrd:Z.roundOf=none:=by have:=H.round;rw[hr]at this;exact this
    rw[m]at D;have D:(match c.callee with
     | .value g=>(match ev X g with
       | .fn f a b=>some (OR.yU ⟨.fn f a b,evs X c.args.toList⟩)
       |_=>none)
     |_=>none)=some (.yU a):=D
    split at D
    .rename_i I z
     split at D
     .rename_i i first cap t
      cases D;have S:=H.U9 I;rw[t]at S;obtain⟨B,cc,J,hf,L⟩:=yP S;have q:dS Y (evs X c.args.toList) (c.args.map Z.eval).toList:=by simpa using wC H.U9 c.args.toList
      intro w;have n:(execOp Z.eval o).runT P w #[]=(.ok (.defer { target:= .fn (.func i) cc,args:=B++c.args.map Z.eval }) w,#[]):=by
       unfold execOp;rw[m];have h1:=ak.Bc (Ej (P:=P) (ty:=o.type) z J w) (λd=>(Pure.pure (Next.defer d):Sem Next)) #[];have N:=ak.pure (P:=P) (w:=w) (Next.defer { target:= .fn (.func i) cc,args:=B++c.args.map Z.eval }) #[];simp only;rw[h1,N];simp
      have M:=jQ H.kind;refine⟨({ Z with defers:={ target:= .fn (.func i) cc,args:=B++c.args.map Z.eval }::Z.defers }:Frame).finish undef,⟨#[],?_,by simp⟩,?_⟩
      .rw[oQ H A Q (.inl hrd)]
       unfold stepG.apply;simp only[if_true,n,M];simp[GStep.after,G,seen]
      .have H':pG Y x X (⟨.fn i first cap,evs X c.args.toList⟩::W) ops j ((List.range ops.size).drop (j+1)) k' { Z with defers:={ target:= .fn (.func i) cc,args:=B++c.args.map Z.eval }::Z.defers }:=
        ⟨H.fn,H.tm,H.todo,⟨_,Z.defers,rfl,⟨B.toList,(c.args.map Z.eval).toList,cc,hf,q,L,by simp⟩,H.ds⟩,H.mode,H.kind,H.round⟩
       exact(H'.finish A (Ext.refl Y) lZ).rf O l
     .cases D
    .cases D
   .cases e
  .rename_i c m
   split at e
   .rename_i I z
    split at e
    .rename_i i first cap t
     cases e;have R:Z.roundOf=none∨∀c,o.op≠.defer c:= .inr λc' h=>by rw[m]at h;cases h
     have S:=H.U9 I;rw[t]at S;obtain⟨B,cc,J,hf,L⟩:=yP S;have q:dS Y (evs X c.args.toList) (c.args.map Z.eval).toList:=by simpa using wC H.U9 c.args.toList
     refine⟨B,c.args.map Z.eval,cc,?_,Z.finish undef,(H.finish A (Ext.refl Y) lZ).rf O l,λw=>?_⟩
     .simp only[dP]
      exact(hf.append q).append L
     .have n:(execOp Z.eval o).runT P w #[]=(.ok (.spawn { target:= .fn (.func i) cc,args:=B++c.args.map Z.eval }) w,#[]):=by
       unfold execOp;rw[m];have h1:=ak.Bc (Ej (P:=P) (ty:=o.type) z J w) (λd=>(Pure.pure (Next.spawn d):Sem Next)) #[];have N:=ak.pure (P:=P) (w:=w) (Next.spawn { target:= .fn (.func i) cc,args:=B++c.args.map Z.eval }) #[];simp only;rw[h1,N];simp
      have M:=jQ H.kind;rw[oQ H A Q R];unfold stepG.apply;simp only[if_true,n,M];simp[GStep.after,G,seen,Conc.born]
    .cases e
   .cases e
  .cases e
theorem ace{nt:Nat}{tmps:Array Value}(d:RT Y nt X tmps):∀{b:List ResultVar} {l:List AV},resT X b=some l->∃vs,dS Y l vs∧∀w,
 ak P (b.mapM λr=>match r with | .tmp t=>(Pure.pure (tmps.getD t undef):Sem Value)| .cell a t=>do loadVar t (← asAddr (tmps.getD a undef))) w vs w []:=by
 intro b;induction b with
 |nil=>intro l e;cases e;exact⟨[],dG,λw=>ak.pure _⟩
 |cons r b f=>
  intro l e;cases r with
  |tmp t=>
   simp only[resT]at e;split at e
   .rename_i h c
    cases e;obtain⟨vs,h1,g⟩:=f c;refine⟨_::vs,cO (d.ev { (default:Frame)with tmps:=tmps } rfl (.tmp t)) h1,λw=>?_⟩;rw[List.mapM_cons];refine ak.aG (ak.pure _) ?_;exact ak.aG (g w) (ak.pure _)
   .cases e
  |cell a t=>cases e
theorem OH{nt:Nat}{tmps:Array Value}(i:RT Y nt X tmps){fn:Func}{d:List ResultVar}(c:fn.results.toList=d){l:List AV}(e:resT X d=some l):
 ∃v,RV Y (ZR l) v∧∀w,ak P (results fn tmps) w v w []:=by
 obtain⟨vs,f,h1⟩:=ace (P:=P) i e;refine⟨if h:vs.toArray.size=1 then vs.toArray[0]else .tuple vs.toArray,?_,λw=>?_⟩
 .cases l with
  |nil=>
   rw[bU f];show RV Y (.gI []) (.tuple #[]);unfold RV;exact⟨#[],rfl,dG⟩
  |cons a l=>
   obtain⟨v,r,rfl,g,g2⟩:=bf f;cases l with
   |nil=>rw[bU g2];exact g
   |cons b l=>
    obtain⟨j,k,rfl,m,n⟩:=bf g2;have:¬(v::j::k).toArray.size=1:=by simp
    rw[dif_neg this];show RV Y (.gI (a::b::l)) _;unfold RV;exact⟨_,rfl,cO g (cO m n)⟩
 .unfold results
  have o:ak P (fn.results.mapM λ
   | .tmp t=>(Pure.pure (tmps.getD t undef):Sem Value)
   | .cell a t=>do loadVar t (← asAddr (tmps.getD a undef))) w vs.toArray w []:=by
   rw[Array.mapM_eq_mapM_toList,c];exact ak.aG (h1 w) (ak.pure _)
  exact ak.aG o (ak.pure _)
theorem rW (F : Fits P E) (FF : eU P E) {f : AF} (R : RF Y f Z) {r : T1} (e : stepT E f = some r) : abL P main E Y Z cs r := by
 obtain ⟨x, X, td, W, ret⟩ := f
 cases ret with
 | true =>
   have hm : Z.mode = .returning := by simpa using R.mode
   cases W with
   | nil =>
     have hds : Z.defers = [] := R.ds
     simp only [stepT] at e
     split at e
     · rename_i c n rs ex hg
       obtain ⟨fn, k1, k2, _, k4, _⟩ := FF.code x.fn c n rs ex hg
       have key : ∀ {l : List AV}, resT X rs = some l → abL P main E Y Z cs (.ret (ZR l)) := fun hl => by
        obtain ⟨u, h1, h2⟩ := OH (P := P) R.tm k4 hl
        refine ⟨u, h1, fun w => ?_⟩
        rw [CP R]
        unfold unwind
        rw [hds]
        have := h2 w #[]
        have hfn : P.funcs[Z.fn]? = some fn := by rw [R.fn]; exact k1
        simp only [hm, hfn, this]
        simp [seen]
       cases hl : resT X rs with
       | none => rw [hl] at e; cases e
       | some l =>
         rw [hl] at e
         have := key hl
         match l, e, this with
         | [], e, this => cases e; exact this
         | [v], e, this => cases e; exact this
         | a :: b :: l, e, this => cases e; exact this
     · cases e
   | cons d ds' =>
     obtain ⟨d', dr, hd, h1, h2⟩ := R.ds
     simp only [stepT] at e
     split at e
     · rename_i g first cap hf
       cases e
       unfold RD at h1
       rw [hf] at h1
       obtain ⟨fs, as, c, ha1, ha2, ha3, rfl⟩ := h1
       have R' : RF Y ⟨x, X, td, ds', true⟩ { Z with defers := dr } := ⟨R.fn, R.tm, R.todo, h2, R.mode, R.kind, R.round⟩
       have hu : ∀ w, stepG P main (G Z cs) w = callDeferred P { Z with defers := dr } cs none { target := .fn (.func g) c, args := (fs ++ as).toArray } w := fun w => by
        rw [CP R]
        unfold unwind
        rw [hd]
       refine ⟨(fs ++ as).toArray ++ c, { Z with defers := dr }, ?_, R', hm, rfl, fun w => ⟨fun c0 n rs ex hgt => ?_, fun u w' es hs => ?_⟩⟩
       · simp only [Array.toList_append]
         exact (ha1.append ha2).append ha3
       · obtain ⟨fn, k1, k2, _, _, k5⟩ := FF.code g c0 n rs ex hgt
         have hr := sN (w := w) (vs := (fs ++ as).toArray ++ c) k1 (by rw [k2]; rfl) k5
         rcases qX (cs := cs) (fr := { Z with defers := dr }) (d := { target := .fn (.func g) c, args := (fs ++ as).toArray }) rfl rfl hr with hcd | hcd
         · rw [hu w, hcd]; simp [GStep.after, seen]
         · exact absurd rfl (hcd.2.2 _ _)
       · rcases qX (cs := cs) (fr := { Z with defers := dr }) (d := { target := .fn (.func g) c, args := (fs ++ as).toArray }) rfl rfl hs with hcd | hcd
         · rw [hu w, hcd]; simp [GStep.after]
         · exact absurd ⟨_, rfl⟩ hcd.1
     · cases e
 | false =>
   have hm : Z.mode = .run := by simpa using R.mode
   have mk : ∀ {l : List Item} {td' : List AI}, (∀ w, stepG.exec P main true Z cs none w = .go (G { Z with todo := l } cs) w) → Gy Y td' l → r = .go ⟨x, X, td', W, false⟩ → abL P main E Y Z cs r := fun hs hl he => by
    subst he
    exact fun w => ⟨_, JY hm hs w, R.to hl⟩
   cases td with
   | nil =>
     have ht : Z.todo = [] := R.todo
     simp only [stepT] at e
     split at e
     · rename_i hx
       cases e
       have hr : Z.roundOf = none := by have := R.round; simp only [hx] at this; exact this
       intro w
       refine ⟨{ Z with mode := .returning }, ⟨#[], ?_, by simp⟩, ⟨R.fn, R.tm, R.todo, R.ds, rfl, R.kind, R.round⟩⟩
       rw [RF.runs R]; unfold stepG.exec; simp only [ht, hr]; rfl
     · cases e
   | cons i k =>
     cases i with
     | code c =>
       simp only [stepT] at e
       cases hp : Hl x c with
       | false => rw [hp] at e; cases e
       | true =>
         rw [hp] at e
         simp only [cond_true] at e
         have : ∃ f', r = .go f' := by
          cases hA : Ld E c k x X W F7 with
          | none => rw [hA] at e; cases e
          | some a =>
            rw [hA] at e
            cases a <;> first | (cases e; exact ⟨_, rfl⟩) | cases e
         obtain ⟨f', rfl⟩ := this
         exact fun w => Z8 F FF R hp e w
     | inBlock id =>
       obtain ⟨i, k', ht, rfl, hk⟩ := R.todo
       cases e; exact mk (l := k') (fun w => by unfold stepG.exec; simp only [ht]; rfl) hk rfl
     | inScope id =>
       obtain ⟨i, k', ht, rfl, hk⟩ := R.todo
       cases e; exact mk (l := k') (fun w => by unfold stepG.exec; simp only [ht]; rfl) hk rfl
     | inLoop body =>
       obtain ⟨i, k', ht, rfl, hk⟩ := R.todo
       cases e
       exact mk (td' := .code body :: .inLoop body :: k) (l := .code body :: .inLoop body :: k') (fun w => by unfold stepG.exec; simp only [ht]; rfl) (.cons rfl (.cons rfl hk)) rfl
     | inRegion ops l =>
       obtain ⟨i, k', ht, ⟨j, hj, rfl⟩, hk⟩ := R.todo
       cases l with
       | nil =>
         cases e
         have hn : (List.range ops.size).drop j = [] := by
          apply List.drop_eq_nil_of_le
          have : ops.toList.length ≤ j := by
           rcases Nat.lt_or_ge j ops.toList.length with h | h
           · rw [List.drop_eq_getElem_cons h] at hj; cases hj
           · exact h
          simpa using this
         rw [hn] at ht
         exact mk (l := k') (fun w => by unfold stepG.exec; simp only [ht]; rfl) hk rfl
       | cons o rest =>
         obtain ⟨ho, hrest, hr⟩ := drop_cons hj
         rw [hr] at ht
         have H : pG Y x X W ops j ((List.range ops.size).drop (j + 1)) k' Z := ⟨R.fn, R.tm, ht, R.ds, hm, R.kind, R.round⟩
         have e : OJ E x X W k ops o rest = some r := e
         unfold OJ at e
         split at e
         · rename_i hw
           exact aey F FF H ho hrest hk (jY R.tm hw) e
         · rename_i hw
           cases e
           intro w
           refine ⟨_, ⟨#[], y5 H (fun o' ho' => ?_), by simp⟩, (H.finish ho (Ext.refl Y) lZ).rf hk hrest⟩
           rw [ho] at ho'; cases ho'
           exact jY R.tm hw
         · cases e
     | inRangeFunc id => cases e
     | endRangeFunc id => cases e
     | beginRound => cases e
     | uz ops n => cases e
end
end
section
open Go.Conc (G)
variable{α:Type}{s:Sem α}{vs:Array Value}
structure rP(P:Program)(g:FuncId)(e:Array Value->Sem Value):Prop where
 ex : ∃ fn, P.funcs[g]? = some fn ∧ (fn.name == "runtime.NumGoroutine") = false ∧ fn.body.isNone = true ∧ Extern.findNext fn = none ∧ Extern.find fn = some e
def TG(g:FuncId):Event:=⟨.mark (.extern g),false,true⟩
def vY(a:Addr):Event:=⟨.cell a,false,true⟩
def Ed(a:Addr):Event:=⟨.cell a,true,true⟩
def sZ(m:Mark):Event:=⟨.mark m,false,true⟩
section
variable{P:Program}{w:World}{g:FuncId}
theorem o9{e:Array Value->Sem Value}(h:rP P g e){vs:Array Value}{v:Value}{w':World}{es:List Event}(a:ak P (e vs) w v w' es):ak P (callFunc g vs) w (.value v) w' (TG g::es):=by
 obtain⟨fn,h1,b,c,d,i⟩:=h.ex;unfold callFunc;refine ak.aG ak.program ?_;simp only[h1,b,c,d,i];refine ak.bind (e1:=[TG g]) (e2:=es) (ak.mark _) ?_;have:=ak.bind a (ak.pure (P:=P) (w:=w') (Next.value v)) (f:=λv=>Pure.pure (Next.value v));simpa using this
theorem aaR{e:Array Value->Sem Value}(h:rP P g e){b:Halt}{w':World}(a:∀c,∃es,(e vs).runT P w c=(.halt b w',es)):∃es,(callFunc g vs).runT P w #[]=(.halt b w',es):=by
 obtain⟨fn,h1,d,f,i,j⟩:=h.ex;unfold callFunc;rw[ak.Bc ak.program];simp only[h1,d,f,i,j];have k:=ak.mark (P:=P) (w:=w) (.extern g) #[];rw[ah (by simp),aC trivial];rw[runT_bind,k];simp only;obtain⟨es,a⟩:=a (#[]++[(⟨.mark (.extern g),false,true⟩:Event)].toArray);show ∃es,((e vs)>>=λv=>Pure.pure (Next.value v)).runT P w _=_;rw[runT_bind,a];exact⟨es,rfl⟩
theorem wH(fn:FuncId){es:List Event}(h:∀x∈es,x.sync=true∧∀g,x.loc≠.mark (.extern g)):seen P fn (TG g::es).toArray=es.toArray:=by
 have:=Conc.seen_entry (P:=P) fn g es.toArray (λx a=>h x (by simpa using a));have e:(TG g::es).toArray=#[⟨.mark (.extern g),false,true⟩]++es.toArray:=by simp[TG]
 rw[e];exact this
theorem ak.adP{a:Addr}{v:Value}(h:w.cell? a=some v):ak P (Go.load a .atomic) w v w [vY a]:=λb=>by
 unfold Go.load;simp only[Sem.runT,h];simp[Sem.runT,vY]
theorem ak.jH{a:Addr}{v v0:Value}(h:w.cell? a=some v0)(b:w.frozen? a=false)(c:∀cs,v≠.agg cs)(d:∀cs,v≠.tuple cs):ak P (Go.store a v .atomic) w () (w.setCell a v) [Ed a]:=λe=>by
 unfold Go.store;cases v<;>first
  |exact aX rfl (c _)
  |exact aX rfl (d _)
  |(simp only[Sem.runT,h,b];simp[Sem.runT,Ed])
theorem y7(m:Mark)(vs:Array Value):ak P ((λ_=>do mark m;Pure.pure Extern.Race.none_:Array Value->Sem Value) vs) w (.tuple #[]) w [sZ m]:=by
 show ak P (mark m>>=λ_=>Pure.pure Extern.Race.none_) w _ w _;exact ak.bind (e1:=[sZ m]) (e2:=[]) (ak.mark m) (ak.pure _)
theorem Ei(m:Addr->Mark)(a:Addr)(h:vs[0]? =some (.pointer (some a))):ak P (Extern.Race.marked m vs) w (.tuple #[]) w [sZ (m a)]:=by
 unfold Extern.Race.marked Extern.Race.at_;simp only[h];refine ak.aG (ak.pure a) ?_;exact ak.bind (e1:=[sZ (m a)]) (e2:=[]) (ak.mark _) (ak.pure _)
theorem Yl{k:IntKind}{a:Addr}{n:Int}(h:w.cell? a=some (.int k n)):ak P (Extern.Atomic.read (.int k) a) w (.int k n) w [vY a]:=by
 unfold Extern.Atomic.read;refine ak.bind (e1:=[vY a]) (e2:=[]) (ak.adP h) ?_;simp only[if_true];exact ak.pure _
theorem CY{k:IntKind}{a:Addr}{n:Int}(h:w.cell? a=some (.int k n)):ak P (Extern.Atomic.loadT (.int k) #[.pointer (some a)]) w (.int k n) w [vY a]:=by
 unfold Extern.Atomic.loadT;refine ak.aG (a:=a) ?_ (Yl h);unfold asAddr;exact ak.pure _
theorem ak.of{a:α}{w':World}{l:List Event}(h1:s.run P w= .ok a w')(b:∀es,s.events P w es=es++l.toArray):ak P s w a w' l:=λc=>by
 rw[Sem.runT_eq,h1,b]
theorem ab7{k:IntKind}{a:Addr}{n d:Int}(h:w.cell? a=some (.int k n))(b:w.frozen? a=false):ak P (Extern.Atomic.update (Op.intArith .add) k true #[.pointer (some a),.int k d]) w (.int k (k.wrap (n+d))) (w.setCell a (.int k (k.wrap (n+d)))) [vY a,Ed a]:=
 .of (Conc.run_add_entry h b) (λes=>by rw[Conc.events_add_entry h b];apply dH.1;simp[vY,Ed])
theorem IE{k:IntKind}{a:Addr}{n m:Int}(h:w.cell? a=some (.int k n))(b:w.frozen? a=false):
 ak P (Extern.Atomic.casT (.int k) #[.pointer (some a),.int k n,.int k m]) w (.bool true) (w.setCell a (.int k m)) [vY a,Ed a]:=by
 rw[Conc.casT_eq];exact .of (Conc.run_cas_hit_entry h b) (λes=>by rw[Conc.events_cas_hit_entry h b];apply dH.1;simp[vY,Ed])
theorem EZ{k:IntKind}{a:Addr}{n o m:Int}(h:w.cell? a=some (.int k n))(c:w.frozen? a=false)(b:n≠o):
 ak P (Extern.Atomic.casT (.int k) #[.pointer (some a),.int k o,.int k m]) w (.bool false) w [vY a]:=by
 rw[Conc.casT_eq];exact .of (Conc.run_cas_miss_entry h c b) (λes=>by rw[Conc.events_cas_miss_entry h c b];apply dH.1;simp[vY])
theorem Nj{a:Addr}{n:Int}{vs:Array Value}(b:vs[0]? =some (.pointer (some a)))(h:w.cell? a=some (.int .u32 n)):ak P (Extern.Sync.count vs) w (a,n) w [vY a]:=by
 unfold Extern.Sync.count;simp only[b];exact ak.bind (e1:=[vY a]) (e2:=[]) (ak.adP h) (ak.pure _)
theorem J5{a:Addr}{n:Int}(b:vs[0]? =some (.pointer (some a)))(h:w.cell? a=some (.int .u32 n))(c:w.frozen? a=false)(d:n≠0):
 ak P (Extern.Sync.semacquire vs) w (.tuple #[]) (w.setCell a (.int .u32 (n - 1))) [sZ .disable,vY a,Ed a,sZ .enable]:=by
 unfold Extern.Sync.semacquire;refine ak.bind (e1:=[sZ .disable]) (e2:=[vY a,Ed a,sZ .enable]) (ak.mark _) ?_;refine ak.bind (e1:=[vY a]) (e2:=[Ed a,sZ .enable]) (Nj b h) ?_;simp only[d,if_false];refine ak.bind (e1:=[Ed a]) (e2:=[sZ .enable]) (ak.jH h c (by simp) (by simp)) ?_;exact ak.bind (e1:=[sZ .enable]) (e2:=[]) (ak.mark _) (ak.pure _)
theorem OA{a:Addr}{vs:Array Value}(c:vs[0]? =some (.pointer (some a)))(h:w.cell? a=some (.int .u32 0)):∀b,∃es,(Extern.Sync.semacquire vs).runT P w b=(.halt .blocked w,es):=by
 intro b;unfold Extern.Sync.semacquire;have d:=ak.mark (P:=P) (w:=w) .disable b;rw[runT_bind,d];simp only;have e:=Nj (P:=P) c h (b++[(⟨.mark .disable,false,true⟩:Event)].toArray);rw[runT_bind,e];simp only[if_true];exact⟨_,rfl⟩
end
end
section
open Go.Conc (G)
open Go.ConcX (WgAt wgBlock stA smA KK)
variable{a:AV}{es:Array Event}{u:Value}{vs:Array Value}
structure X8(P:Program)(E:Env):Prop where
 wW:∀g n rs,E.ft.get g=some ⟨none,n,rs,.wW⟩->∃e,rP P g e∧∀v,e #[v]=Pure.pure v
 Ak:∀g n rs,E.ft.get g=some ⟨none,n,rs,.Ak⟩->∃e,rP P g e∧∀vs,e vs=Pure.pure (.bool false)
 race:∀g n rs,E.ft.get g=some ⟨none,n,rs,.race⟩->∃m:Addr->Mark,rP P g (Extern.Race.marked m)∧(m= .acquire∨m= .release∨m= .releaseMerge∨m= .read∨m= .write)
 YR:∀g n rs,E.ft.get g=some ⟨none,n,rs,.YR⟩->rP P g (λ_=>do mark .disable;Pure.pure Extern.Race.none_)
 en:∀g n rs,E.ft.get g=some ⟨none,n,rs,.en⟩->rP P g (λ_=>do mark .enable;Pure.pure Extern.Race.none_)
 I7:∀g n rs k,E.ft.get g=some ⟨none,n,rs,.I7 k⟩->rP P g (Extern.Atomic.update (Op.intArith .add) k true)
 I5:∀g n rs k,E.ft.get g=some ⟨none,n,rs,.I5 k⟩->rP P g (Extern.Atomic.casT (.int k))
 EG:∀g n rs k,E.ft.get g=some ⟨none,n,rs,.EG k⟩->rP P g (Extern.Atomic.loadT (.int k))
 Ez:∀g n rs,E.ft.get g=some ⟨none,n,rs,.Ez⟩->rP P g Extern.BytealgCompare.compare
 zl:∀g n rs,E.ft.get g=some ⟨none,n,rs,.zl⟩->rP P g Extern.MapsClone.clone
 overlaps:∀g n rs,E.ft.get g=some ⟨none,n,rs,.overlaps⟩->∃ps qs t e i,rP P g (Extern.SlicesOverlaps.overlaps ps qs)∧ps[0]? =some t∧P.underlying t=some (.slice e)∧P.info? e=some i
structure pz where
 wait:FuncId
 load:FuncId
 cas:FuncId
 G6:FuncId
 acq:FuncId
 wrt:FuncId
structure ad1(P:Program)(I:pz):Prop where
 load:rP P I.load (Extern.Atomic.loadT (.int .u64))
 cas:rP P I.cas (Extern.Atomic.casT (.int .u64))
 G6:rP P I.G6 Extern.Sync.semacquire
 acq:rP P I.acq (Extern.Race.marked .acquire)
 wrt:rP P I.wrt (Extern.Race.marked .write)
inductive SK where
 |call (f:AF) (d:Option Tmp)
 |dcall (f:AF)
noncomputable def resume(f:AF)(d:Option Tmp)(v:AV):AF:=⟨f.x,fin f.x d v f.tm,f.todo,f.ds,false⟩
inductive TR where
 |go (f:AF) (k:List SK) (d:Nat)
 |ext (f:AF) (dst:Option Tmp) (g:FuncId) (args:List AV) (k:List SK)
 |ret (v:AV)
 |no
noncomputable def BO(k:List SK)(d:Nat):Option AF->TR
 |some f=> .go f k d
 |none=> .no
def SX:List AV->Bool
 |[.ptr 0 1]=>true
 |_=>false
noncomputable def acZ(I:pz)(f:AF)(dst:Option Tmp)(g:FuncId)(args:List AV)(k:List SK)(d:Nat)(e:EX):TR:=
 match e,args with
 | .YR,[]=> .go (resume f dst (.gI [])) k (d+1)
 | .en,[]=>cond (Nat.beq d 0) .no (.go (resume f dst (.gI [])) k (d - 1))
 | .Ak,_=> .go (resume f dst (.bool false)) k d
 |_,_=>cond (Nat.beq g I.wrt&&SX args) (.go (resume f dst (.gI [])) k d) (.ext f dst g args k)
noncomputable def EP(E:Env)(I:pz)(f:AF)(k:List SK)(d:Nat):TR:=
 match stepT E f with
 |some (.go f')=> .go f' k d
 |some (.call f' dst g args)=>(match E.ft.get g with
  |some ⟨some _,_,_,_⟩=>BO (.call f' dst::k) d (jJ E g args false)
  |some ⟨none,_,_,e⟩=>acZ I f' dst g args k d e
  |none=> .no)
 |some (.dcall f' g args)=>(match E.ft.get g with
  |some ⟨some _,_,_,_⟩=>BO (.dcall f'::k) d (jJ E g args true)
  |some ⟨none,_,_,.en⟩=>cond (Nat.beq d 0|| !args.isEmpty) .no (.go f' k (d - 1))
  |_=> .no)
 |some (.conv f' dst id off)=>cond (Nat.beq id 0&&Nat.blt off 2) (.go (resume f' dst (.ptr id off)) k d) .no
 |some (.ret v)=>(match k with
  | .call f' dst::k'=>cond f.x.deferred .no (.go (resume f' dst v) k' d)
  | .dcall f'::k'=>cond f.x.deferred (.go f' k' d) .no
  |[]=>cond f.x.deferred .no (.ret v))
 |_=> .no
def MEv(Wg:Nat)(e:Event):Prop:=e.loc= .mark .noRoom∨e=sZ .disable∨e=sZ .enable∨e=sZ (.write (smA Wg))
def WgLive(ty:TypeId)(Wg:Nat)(w:World):Prop:=∃st a,WgAt ty Wg w st a
def MW(P:Program)(ty:TypeId)(Wg:Nat)(Stop:Nat->Goroutine->Prop):Nat->Nat->Goroutine->Prop
 |0,d,g=>Stop d g
 |n+1,d,g=>Stop d g∨(g.status= .running∧∀w,WgLive ty Wg w->∃g' es,stepG P true g w= .go g' w es∧(∀e∈es,MEv Wg e)∧MW P ty Wg Stop n (deafBehind d es) g')
def RS(ι:Nm):List SK->List Frame->Prop
 |[],a=>a=[]
 | .call f d::k,a=>∃fr r,a=fr::r∧EJ ι f d fr∧RS ι k r
 | .dcall f::k,a=>∃fr r,a=fr::r∧(RF ι f fr∧fr.mode= .returning)∧RS ι k r
def X4(ι:Nm)(c:Frame)(cs:List Frame)(f:AF)(k:List SK)(g:Goroutine):Prop:=∃fr a,g=G fr (a++c::cs)∧RF ι f fr∧RS ι k a
section
variable{P:Program}{E:Env}{I:pz}{V:TypeId}{X W:Nat}{Y:Nm}{c:Frame}{Z:List Frame}{f:AF}{k:List SK}{d:Nat}{g:Goroutine}{w:World}
theorem BU(h:∀e∈es,e.loc= .mark .noRoom)(d:Nat):deafBehind d es=d:=qh (λe a=>by rw[h e a];exact⟨by simp,by simp⟩) d
theorem Eo(h:∀e∈es,e.loc= .mark .noRoom):∀e∈es,MEv X e:=λe a=> .inl (h e a)
theorem uI{fr:Frame}{a:List Frame}{g:FuncId}{back:Value->Frame}(h:Gx P true fr a w g vs back){e:Event}(hr:ak P (callFunc g vs) w (.value u) w [TG g,e])(b:e.sync=true∧∀g,e.loc≠.mark (.extern g)):
 stepG P true (G fr a) w= .go (G (back u) a) w #[e]:=by
 have:=h u w _ hr;rw[wH _ (by simpa using b)]at this;exact this
theorem Yg{fr:Frame}{a:List Frame}{g:FuncId}{back:Value->Frame}(h:Gx P true fr a w g vs back)(hr:ak P (callFunc g vs) w (.value u) w [TG g]):
 stepG P true (G fr a) w= .go (G (back u) a) w #[]:=by
 have:=h u w _ hr;rw[wH _ (by simp)]at this;exact this
theorem DN{off:Nat}(a:Y 0=some (X,W)){v:Value}(h:RV Y (.ptr 0 off) v):v= .pointer (some ⟨X,off,none⟩):=by
 obtain⟨p,hp,rfl⟩:=jF h;rw[a]at hp;cases hp;rfl
theorem args1(h:dS Y [a] vs.toList):∃v,vs=#[v]∧RV Y a v:=by
 obtain⟨v,r,h1,b,e⟩:=bf h;rw[bU e]at h1;exact⟨v,by apply dH.1;rw[h1],b⟩
theorem zD(h:dS Y [] vs.toList):vs=#[]:=by
 have:=bU h;apply dH.1;rw[this]
theorem Zr(F:Fits P E)(FF:eU P E)(FX:X8 P E)(FW:ad1 P I)(s:Y 0=some (X,W))(H:X4 Y c Z f k g){f':AF}{k':List SK}{d':Nat}(e:EP E I f k d= .go f' k' d')(hw:WgLive V X w):
 ∃g' es,stepG P true g w= .go g' w es∧(∀e∈es,MEv X e)∧deafBehind d es=d'∧X4 Y c Z f' k' g':=by
 obtain⟨fr,a,rfl,R,h⟩:=H;unfold EP at e;split at e
 .rename_i J q
  cases e;have:=rW (main:=true) (cs:=a++c::Z) F FF R q;obtain⟨i,⟨es,h1,m⟩,t⟩:=this w;exact⟨_,es,h1,Eo m,BU m d,i,a,rfl,t,h⟩
 .rename_i J dst C args q
  obtain⟨h1,K,vs,m,t⟩:=rW (main:=true) (cs:=a++c::Z) F FF R q;obtain⟨L,D,h6⟩:=t w;split at e
  .rename_i cd n y ex r
   unfold BO at e;split at e
   .rename_i fn z
    cases e;refine⟨_,#[],L _ _ _ _ r,by simp,rfl,_,fr::a,rfl,lV FF z m rfl,fr,a,rfl,h1,h⟩
   .cases e
  .rename_i n y ex r
   unfold acZ at e;split at e
   .cases e
    refine⟨_,#[sZ .disable],uI D (o9 (FX.YR C n y r) (y7 .disable vs)) ⟨rfl,by simp[sZ]⟩,?_,by simp[deafBehind,sZ],_,a,rfl,h1 _ _ (by unfold RV;exact⟨#[],rfl,dG⟩),h⟩;intro e j;simp at j;subst j;exact .inr (.inl rfl)
   .cases b:Nat.beq d 0 with
    |true=>rw[b]at e;cases e
    |false=>
     rw[b]at e;cases e;refine⟨_,#[sZ .enable],uI D (o9 (FX.en C n y r) (y7 .enable vs)) ⟨rfl,by simp[sZ]⟩,?_,by simp[deafBehind,sZ],_,a,rfl,h1 _ _ (by unfold RV;exact⟨#[],rfl,dG⟩),h⟩;intro e j;simp at j;subst j;exact .inr (.inr (.inl rfl))
   .cases e
    obtain⟨ef,M,N⟩:=FX.Ak C n y r;refine⟨_,#[],Yg D (o9 (es:=[]) M (by rw[N];exact ak.pure _)),by simp,rfl,_,a,rfl,h1 _ _ (by unfold RV;rfl),h⟩
   .cases b:(Nat.beq C I.wrt&&SX args)with
    |false=>simp only[b]at e;cases e
    |true=>
     simp only[b]at e;cases e;rw[aF]at b;have O:=au b.1;have ha:args=[.ptr 0 1]:=by
      have:=b.2;unfold SX at this;split at this
      .rfl
      .cases this
     subst ha;obtain⟨v,rfl,Q⟩:=args1 m;have Q:=DN s Q;subst Q;subst O;refine⟨_,#[sZ (.write (smA X))],uI D (o9 FW.wrt (Ei .write ⟨X,1,none⟩ rfl)) ⟨rfl,by simp[sZ]⟩,?_,by simp[deafBehind,sZ],_,a,rfl,h1 _ _ (by unfold RV;exact⟨#[],rfl,dG⟩),h⟩;intro e j;simp at j;subst j;exact .inr (.inr (.inr rfl))
  .cases e
 .rename_i J C args q
  obtain⟨vs,i,m,h1,K,_,t⟩:=rW (main:=true) (cs:=a++c::Z) F FF R q;obtain⟨L,D⟩:=t w;split at e
  .rename_i cd n y ex r
   unfold BO at e;split at e
   .rename_i fn z
    cases e;refine⟨_,#[],L _ _ _ _ r,by simp,rfl,_,i::a,rfl,lV FF z m rfl,i,a,rfl,⟨h1,K⟩,h⟩
   .cases e
  .rename_i n y r
   cases b:(Nat.beq d 0|| !args.isEmpty)with
   |true=>rw[b]at e;cases e
   |false=>
    rw[b]at e;cases e;have:=D _ _ _ (o9 (FX.en C n y r) (y7 .enable vs));rw[wH _ (by intro x hx;simp at hx;subst hx;exact⟨rfl,by simp[sZ]⟩)]at this;refine⟨_,#[sZ .enable],this,?_,by simp[deafBehind,sZ],i,a,rfl,h1,h⟩;intro e j;simp at j;subst j;exact .inr (.inr (.inl rfl))
  .cases e
 .rename_i J dst id off q
  obtain⟨h1,p,hp,t⟩:=rW (main:=true) (cs:=a++c::Z) F FF R q;cases b:(Nat.beq id 0&&Nat.blt off 2)with
  |false=>rw[b]at e;cases e
  |true=>
   rw[b]at e;cases e;rw[aF,dB]at b;have S:=au b.1;subst S;rw[s]at hp;cases hp;obtain⟨st,sm,hb⟩:=hw;obtain⟨es,k1,k2⟩:=t w _ _ _ hb b.2;exact⟨_,es,k1,Eo k2,BU k2 d,_,a,rfl,h1 _ _ (xO s),h⟩
 .rename_i v q
  obtain⟨u,h1,m⟩:=rW (main:=true) (cs:=a++c::Z) F FF R q;split at e
  .rename_i J dst k1
   cases o:f.x.deferred with
   |true=>rw[o]at e;cases e
   |false=>
    rw[o]at e;cases e;obtain⟨l,r1,rfl,A,B⟩:=h;have T:fr.kind= .normal:=by rw[R.kind,o];rfl
    refine⟨G (l.finish u) (r1++c::Z),#[],?_,by simp,rfl,_,r1,rfl,A _ _ h1,B⟩;rw[m w];show GStep.after #[] (doReturn P true fr (l::(r1++c::Z)) none u w)=_;unfold doReturn;simp only[T];rfl
  .rename_i J k1
   cases o:f.x.deferred with
   |false=>rw[o]at e;cases e
   |true=>
    rw[o]at e;cases e;obtain⟨l,r1,rfl,⟨A,U⟩,B⟩:=h;have T:fr.kind= .deferred:=by rw[R.kind,o];rfl
    refine⟨G l (r1++c::Z),#[],?_,by simp,rfl,_,r1,rfl,A,B⟩;rw[m w];show GStep.after #[] (doReturn P true fr (l::(r1++c::Z)) none u w)=_;unfold doReturn;simp only[T,U];rfl
  .cases o:f.x.deferred with
   |true=>rw[o]at e;cases e
   |false=>rw[o]at e;cases e
 .cases e
end
end
section
open Go.Conc (G semEvents)
open Go.ConcX (WgAt wgBlock stA smA KK)
variable{g0:FuncId}
section
variable(P:Program)(ty:TypeId)(Wg:Nat)(Fin:Goroutine->Prop)
def AtAcq(g:Goroutine):Prop:=g.status= .running∧∀w,∃g',stepG P true g w= .go g' w #[sZ (.acquire (stA Wg))]∧Fin g'
def abP(n:Nat)(g:Goroutine):Prop:=MW P ty Wg (λd g=>d=0∧AtAcq P Wg Fin g) n 1 g
def Om(g:Goroutine):Prop:=g.status= .running∧∀w a,WgAt ty Wg w 0 a->∃g',stepG P true g w= .go g' w #[vY (stA Wg)]∧∃n,abP P ty Wg Fin n g'
def abO(n:Nat)(g:Goroutine):Prop:=MW P ty Wg (λd g=>d=1∧Om P ty Wg Fin g) n 1 g
def Jd(g:Goroutine):Prop:=g.status= .running∧g.offers=none∧(∀w st,WgAt ty Wg w st 0->stepG P true g w= .go { g with status:= .blocked } w #[])∧
 (∀w,WgAt ty Wg w 0 1->∃g',stepG P true g w= .go g' (w.setCell (smA Wg) (.int .u32 0)) (semEvents (smA Wg))∧∃n,abO P ty Wg Fin n g')
def adC(n:Nat)(g:Goroutine):Prop:=MW P ty Wg (λd g=>d=1∧Jd P ty Wg Fin g) n 1 g
def LY(g:Goroutine):Prop:=g.status= .running∧
 (∀w,WgAt ty Wg w KK 0->∃g',stepG P true g w= .go g' (w.setCell (stA Wg) (.int .u64 (KK+1))) #[vY (stA Wg),Ed (stA Wg)]∧∃n,adC P ty Wg Fin n g')∧
 (∀w,WgAt ty Wg w 0 0->∃g',stepG P true g w= .go g' w #[vY (stA Wg)]∧∃n,abO P ty Wg Fin n g')
def adD(n:Nat)(g:Goroutine):Prop:=MW P ty Wg (λd g=>d=1∧LY P ty Wg Fin g) n 1 g
def V8(g:Goroutine):Prop:=g.status= .running∧
 (∀w,WgAt ty Wg w KK 0->∃g',stepG P true g w= .go g' w #[vY (stA Wg)]∧∃n,adD P ty Wg Fin n g')∧
 (∀w,WgAt ty Wg w 0 0->∃g',stepG P true g w= .go g' w #[vY (stA Wg)]∧∃n,abP P ty Wg Fin n g')
def MLd(d n:Nat)(g:Goroutine):Prop:=MW P ty Wg (λd g=>d=1∧V8 P ty Wg Fin g) n d g
end
abbrev TS:=AF×List SK×Nat
noncomputable def Ef(E:Env)(I:pz)(n:Nat):AF->List SK->Nat->TS:=
 @Nat.rec (λ_=>AF->List SK->Nat->TS) (λf k d=>(f,k,d)) (λ_ a f k d=>match EP E I f k d with | .go f' k' b=>a f' k' b|_=>(f,k,d)) n
noncomputable def zS(E:Env)(I:pz)(s:TS)(d:Nat)(g:FuncId)(ok:List AV->Bool):Option (AF×Option Tmp×List SK):=
 match EP E I s.1 s.2.1 s.2.2 with
 | .ext f dst g' args k=>cond (Nat.beq s.2.2 d&&(Nat.beq g' g&&ok args)) (some (f,dst,k)) none
 |_=>none
def SY:List AV->Bool
 |[.ptr 0 0]=>true
 |_=>false
def adR:List AV->Bool
 |[.ptr 0 1,_]=>true
 |_=>false
def adS:List AV->Bool
 |[.ptr 0 0,.int .u64 a,.int .u64 b]=>a==KK&&b==KK+1
 |_=>false
noncomputable def on(E:Env)(I:pz)(d:Nat)(v:AV)(p:AF×Option Tmp×List SK):TS:=Ef E I 200 (resume p.1 p.2.1 v) p.2.2 d
noncomputable def aaP(E:Env)(I:pz)(s:TS):Bool:=match EP E I s.1 s.2.1 s.2.2 with | .ret (.gI [])=>Nat.beq s.2.2 0|_=>false
noncomputable def XR(E:Env)(I:pz)(s:TS):Bool:=match zS E I s 0 I.acq SY with |some p=>aaP E I (on E I 0 (.gI []) p)|none=>false
noncomputable def Xr(E:Env)(I:pz)(s:TS):Bool:=match zS E I s 1 I.load SY with |some p=>XR E I (on E I 1 (.int .u64 0) p)|none=>false
noncomputable def ZL(E:Env)(I:pz)(s:TS):Bool:=match zS E I s 1 I.G6 adR with |some p=>Xr E I (on E I 1 (.gI []) p)|none=>false
noncomputable def abh(E:Env)(I:pz)(s:TS):Bool:=match zS E I s 1 I.cas adS with |some p=>ZL E I (on E I 1 (.bool true) p)&&Xr E I (on E I 1 (.bool false) p)|none=>false
noncomputable def aeM(E:Env)(I:pz)(s:TS):Bool:=match zS E I s 1 I.load SY with |some p=>abh E I (on E I 1 (.int .u64 KK) p)&&XR E I (on E I 1 (.int .u64 0) p)|none=>false
noncomputable def wM(E:Env)(I:pz):Bool:=match jJ E I.wait [.ptr 0 0] false with |some f=>aeM E I (Ef E I 200 f [] 0)|none=>false
section
variable{P:Program}{E:Env}{I:pz}{ty:TypeId}{Wg W:Nat}{Y:Nm}{c:Frame}{Z:List Frame}
structure xZ(P:Program)(E:Env)(I:pz):Prop where
 F:Fits P E
 FF:eU P E
 FX:X8 P E
 FW:ad1 P I
theorem GK(X:xZ P E I)(b:Y 0=some (Wg,W)){Stop:Nat->Goroutine->Prop}:∀(n:Nat) (f:AF) (k:List SK) (d:Nat) (g:Goroutine),X4 Y c Z f k g->
 (∀g',X4 Y c Z (Ef E I n f k d).1 (Ef E I n f k d).2.1 g'->Stop (Ef E I n f k d).2.2 g')->MW P ty Wg Stop n d g
 |0,f,k,d,g,H,a=>a g H
 |n+1,f,k,d,g,H,a=>by
  have e:Ef E I (n+1) f k d=(match EP E I f k d with | .go f' k' h=>Ef E I n f' k' h|_=>(f,k,d)):=rfl;cases i:EP E I f k d with
  |go f' k' h=>
   rw[i]at e;simp only at e;rw[e]at a;refine .inr ⟨?_,λw j=>?_⟩
   .obtain⟨fr,l,rfl,_⟩:=H;rfl
   .obtain⟨g',es,h1,m,o,p⟩:=Zr X.F X.FF X.FX X.FW b H i j
    refine⟨g',es,h1,m,?_⟩;rw[o];exact GK X b n f' k' h g' p a
  |_=>rw[i]at e;simp only at e;rw[e]at a;exact .inl (a g H)
theorem LC(X:xZ P E I){s:TS}{d:Nat}{ok:List AV->Bool}{p:AF×Option Tmp×List SK}(e:zS E I s d g0 ok=some p){g:Goroutine}(H:X4 Y c Z s.1 s.2.1 g):
 s.2.2=d∧∃args,ok args=true∧∃fr h vs,g=G fr (h++c::Z)∧dS Y args vs.toList∧(∀v u,RV Y v u->X4 Y c Z (resume p.1 p.2.1 v) p.2.2 (G (fr.finish u) (h++c::Z)))∧
  ∀w,Gx P true fr (h++c::Z) w g0 vs (λu=>fr.finish u)∧(∀w2 es,(callFunc g0 vs).runT P w #[]=(.halt .blocked w2,es)->stepG P true (G fr (h++c::Z)) w= .go { G fr (h++c::Z)with status:= .blocked } w2 #[]):=by
 obtain⟨f,k,n⟩:=s;obtain⟨fr,h,rfl,R,y⟩:=H;unfold zS at e;simp only at e R y;split at e
 .rename_i A dst g' args k1 a
  cases l:(Nat.beq n d&&(Nat.beq g' g0&&ok args))with
  |false=>rw[l]at e;cases e
  |true=>
   rw[l]at e;cases e;simp only[aF]at l;obtain⟨o,q,r⟩:=l;have o:=au o;have q:=au q;subst q;unfold EP at a;split at a
   .cases a
   .rename_i t j g2 b m
    obtain⟨h1,B,vs,C,z⟩:=rW (main:=true) (cs:=h++c::Z) X.F X.FF R m;have key:t=A∧j=dst∧g2=g'∧b=args∧k1=k:=by
     split at a
     .unfold BO at a;split at a<;>cases a
     .unfold acZ at a
      split at a
      .cases a
      .cases i:Nat.beq n 0<;>rw[i]at a<;>cases a
      .cases a
      .cases i:(Nat.beq g2 I.wrt&&SX b)with
       |true=>simp only[i]at a;cases a
       |false=>simp only[i]at a;cases a;exact⟨rfl,rfl,rfl,rfl,rfl⟩
     .cases a
    obtain⟨rfl,rfl,rfl,rfl,rfl⟩:=key;exact⟨o,b,r,fr,h,vs,rfl,C,λv u D=>⟨_,h,rfl,h1 v u D,y⟩,λw=>⟨(z w).2.1,(z w).2.2⟩⟩
   .rename_i t g2 b m
    split at a
    .unfold BO at a;split at a<;>cases a
    .cases i:(Nat.beq n 0|| !b.isEmpty)<;>rw[i]at a<;>cases a
    .cases a
   .rename_i t j id off m
    cases i:(Nat.beq id 0&&Nat.blt off 2)<;>rw[i]at a<;>cases a
   .rename_i v m
    split at a
    .cases i:f.x.deferred<;>rw[i]at a<;>cases a
    .cases i:f.x.deferred<;>rw[i]at a<;>cases a
    .cases i:f.x.deferred<;>rw[i]at a<;>cases a
   .cases a
 .cases e
theorem Kz(X:xZ P E I)(a:Y 0=some (Wg,W)){Stop:Nat->Goroutine->Prop}{d:Nat}{v:AV}{p:AF×Option Tmp×List SK}{g:Goroutine}(H:X4 Y c Z (resume p.1 p.2.1 v) p.2.2 g)
 (b:∀g',X4 Y c Z (on E I d v p).1 (on E I d v p).2.1 g'->Stop (on E I d v p).2.2 g'):MW P ty Wg Stop 200 d g:=GK X a 200 _ _ d g H b
theorem Ib{args:List AV}(h:SY args=true):args=[.ptr 0 0]:=by
 unfold SY at h;split at h
 .rfl
 .cases h
def Gv(P:Program)(ty:TypeId)(Wg:Nat)(c:Frame)(Z:List Frame)(g:Goroutine):Prop:=∃n,MW P ty Wg (λd g=>d=0∧g=G (c.finish (.tuple #[])) Z) n 0 g
theorem aeW(X:xZ P E I){s:TS}(h:aaP E I s=true){g:Goroutine}(H:X4 Y c Z s.1 s.2.1 g):s.2.2=0∧MW P ty Wg (λd g=>d=0∧g=G (c.finish (.tuple #[])) Z) 1 0 g:=by
 obtain⟨f,k,m⟩:=s;obtain⟨fr,i,rfl,R,n⟩:=H;unfold aaP at h;simp only at h R n;split at h
 .rename_i a
  have p:=au h;refine⟨p,.inr ⟨rfl,λw _=>?_⟩⟩;unfold EP at a;split at a
  .cases a
  .rename_i o j g2 b l
   split at a
   .unfold BO at a;split at a<;>cases a
   .unfold acZ at a
    split at a
    .cases a
    .cases e:Nat.beq m 0<;>rw[e]at a<;>cases a
    .cases a
    .cases e:(Nat.beq g2 I.wrt&&SX b)<;>simp only[e]at a<;>cases a
   .cases a
  .rename_i o g2 b l
   split at a
   .unfold BO at a;split at a<;>cases a
   .cases e:(Nat.beq m 0|| !b.isEmpty)<;>rw[e]at a<;>cases a
   .cases a
  .rename_i o j id off l
   cases e:(Nat.beq id 0&&Nat.blt off 2)<;>rw[e]at a<;>cases a
  .rename_i v l
   obtain⟨u,h1,q⟩:=rW (main:=true) (cs:=i++c::Z) X.F X.FF R l;split at a
   .cases e:f.x.deferred<;>rw[e]at a<;>cases a
   .cases e:f.x.deferred<;>rw[e]at a<;>cases a
   .cases e:f.x.deferred with
    |true=>rw[e]at a;cases a
    |false=>
     rw[e]at a;cases a;have r:i=[]:=n;subst r;have t:fr.kind= .normal:=by rw[R.kind,e];rfl
     have y:u= .tuple #[]:=by
      unfold RV at h1;obtain⟨vs,h1,z⟩:=h1;have:=bU z;rw[h1];congr 1;apply dH.1;rw[this]
     subst y;refine⟨G (c.finish (.tuple #[])) Z,#[],?_,by simp,rfl,rfl⟩;rw[q w];show GStep.after #[] (doReturn P true fr (c::Z) none (.tuple #[]) w)=_;unfold doReturn;simp only[t];rfl
  .cases a
 .cases h
theorem VR(X:xZ P E I)(b:Y 0=some (Wg,W)){s:TS}(h:XR E I s=true){g:Goroutine}(H:X4 Y c Z s.1 s.2.1 g):s.2.2=0∧AtAcq P Wg (Gv P ty Wg c Z) g:=by
 unfold XR at h;split at h
 .rename_i p hp
  obtain⟨h1,args,e,fr,r,vs,rfl,t,u,x⟩:=LC X hp H;obtain rfl:=Ib e;obtain⟨v,rfl,y⟩:=args1 t;obtain rfl:=DN b y;refine⟨h1,rfl,λw=>⟨_,uI (x w).1 (o9 X.FW.acq (Ei .acquire ⟨Wg,0,none⟩ rfl)) ⟨rfl,by simp[sZ]⟩,?_⟩⟩;exact⟨200+1,by
   have:=Kz (ty:=ty) X b (Stop:=λd g=>d=0∧MW P ty Wg (λd g=>d=0∧g=G (c.finish (.tuple #[])) Z) 1 0 g) (u (.gI []) (.tuple #[]) (by unfold RV;exact⟨#[],rfl,dG⟩)) (d:=0) (λg' i=>aeW X h i);exact mw_then (λd g z=>by obtain⟨rfl,f⟩:=z;exact f) this⟩
 .cases h
where
 mw_then {Stop a:Nat->Goroutine->Prop} {m:Nat} (f:∀d g,a d g->MW P ty Wg Stop m d g):∀{n d:Nat} {g:Goroutine},MW P ty Wg a n d g->MW P ty Wg Stop (n+m) d g
 |0,d,g,h=>by rw[fA];exact f d g h
 |n+1,d,g,h=>by
  rcases h with h|⟨h1,e⟩
  .have:=f d g h
   exact mw_more (n+1) this
  .rw[Nat.add_right_comm]
   refine .inr ⟨h1,λw k=>?_⟩;obtain⟨g',es,l,o,q⟩:=e w k;exact⟨g',es,l,o,mw_then f q⟩
 mw_more {Stop:Nat->Goroutine->Prop}:∀(j:Nat) {m d:Nat} {g:Goroutine},MW P ty Wg Stop m d g->MW P ty Wg Stop (j+m) d g
 |0,m,d,g,h=>by rw[fA];exact h
 |j+1,m,d,g,h=>by
  have:=mw_more j h;rw[Nat.add_right_comm];exact mw_succ this
 mw_succ {Stop:Nat->Goroutine->Prop}:∀{m d:Nat} {g:Goroutine},MW P ty Wg Stop m d g->MW P ty Wg Stop (m+1) d g
 |0,d,g,h=> .inl h
 |m+1,d,g,h=>by
  rcases h with h|⟨h1,e⟩
  .exact .inl h
  .refine .inr ⟨h1,λw k=>?_⟩
   obtain⟨g',es,l,o,q⟩:=e w k;exact⟨g',es,l,o,mw_succ q⟩
theorem aaB(X:xZ P E I)(a:Y 0=some (Wg,W)){s:TS}(h:Xr E I s=true){g:Goroutine}(H:X4 Y c Z s.1 s.2.1 g):s.2.2=1∧Om P ty Wg (Gv P ty Wg c Z) g:=by
 unfold Xr at h;split at h
 .rename_i p hp
  obtain⟨h1,args,d,fr,e,vs,rfl,f,i,j⟩:=LC X hp H;obtain rfl:=Ib d;obtain⟨v,rfl,k⟩:=args1 f;obtain rfl:=DN a k;refine⟨h1,rfl,λw m l=>⟨_,uI (j w).1 (o9 X.FW.load (CY l.cellSt)) ⟨rfl,by simp[vY]⟩,200,?_⟩⟩;exact Kz X a (i (.int .u64 0) (.int .u64 0) (by unfold RV;rfl)) λg' b=>VR X a h b
 .cases h
theorem aec(X:xZ P E I)(b:Y 0=some (Wg,W)){s:TS}(h:ZL E I s=true){g:Goroutine}(H:X4 Y c Z s.1 s.2.1 g):s.2.2=1∧Jd P ty Wg (Gv P ty Wg c Z) g:=by
 unfold ZL at h;split at h
 .rename_i p hp
  obtain⟨h1,args,f,fr,i,vs,rfl,o,q,m⟩:=LC X hp H;have t:∃a,args=[.ptr 0 1,a]:=by
   unfold adR at f;split at f
   .exact⟨_,rfl⟩
   .cases f
  obtain⟨a,rfl⟩:=t;obtain⟨v,r,j,u,_⟩:=bf o;obtain rfl:=DN b u;have d:vs[0]? =some (.pointer (some ⟨Wg,1,none⟩)):=by rw[← bI,j];rfl
  refine⟨h1,rfl,rfl,λw st e=>?_,λw e=>⟨G (fr.finish (.tuple #[])) (i++c::Z),?_,200,?_⟩⟩
  .obtain⟨es,k⟩:=aaR X.FW.G6 (OA (P:=P) d e.cellSm)
   exact(m w).2 w es k
  .have hr:=(m w).1 _ _ _ (o9 X.FW.G6 (J5 d e.cellSm (e.thaw 1) (by decide)))
   rw[wH _ (by
    intro x n;simp only[ay,av,aU]at n;rcases n with rfl|rfl|rfl|rfl<;>exact⟨rfl,by simp[sZ,vY,Ed]⟩)]at hr
   exact hr
  .exact Kz X b (q (.gI []) (.tuple #[]) (by unfold RV;exact⟨#[],rfl,dG⟩)) λg' l=>aaB X b h l
 .cases h
theorem ae3(X:xZ P E I)(a:Y 0=some (Wg,W)){s:TS}(h:abh E I s=true){g:Goroutine}(H:X4 Y c Z s.1 s.2.1 g):s.2.2=1∧LY P ty Wg (Gv P ty Wg c Z) g:=by
 unfold abh at h;split at h
 .rename_i p hp
  obtain⟨h1,args,f,fr,i,vs,rfl,y,q,t⟩:=LC X hp H;rw[aF]at h;have z:args=[.ptr 0 0,.int .u64 KK,.int .u64 (KK+1)]:=by
   unfold adS at f;split at f
   .rw[aF,oH,oH]at f
    rw[f.1,f.2]
   .cases f
  subst z;obtain⟨v,r,d,A,hr⟩:=bf y;obtain⟨v2,r2,m,j,n⟩:=bf hr;obtain⟨v3,B,b,k,o⟩:=bf n;rw[bU o]at b;obtain rfl:=DN a A;unfold RV at j k;subst j;subst k;have d:vs=#[.pointer (some ⟨Wg,0,none⟩),.int .u64 KK,.int .u64 (KK+1)]:=by apply dH.1;rw[d,m,b]
  subst d;refine⟨h1,rfl,λw l=>⟨G (fr.finish (.bool true)) (i++c::Z),?_,200,?_⟩,λw l=>⟨G (fr.finish (.bool false)) (i++c::Z),?_,200,?_⟩⟩
  .have hr:=(t w).1 _ _ _ (o9 X.FW.cas (IE l.cellSt (l.thaw 0)))
   rw[wH _ (by
    intro x u;simp only[ay,av,aU]at u;rcases u with rfl|rfl<;>exact⟨rfl,by simp[vY,Ed]⟩)]at hr
   exact hr
  .exact Kz X a (q (.bool true) (.bool true) (by unfold RV;rfl)) λg' e=>aec X a h.1 e
  .exact uI (t w).1 (o9 X.FW.cas (EZ l.cellSt (l.thaw 0) (by decide))) ⟨rfl,by simp[vY]⟩
  .exact Kz X a (q (.bool false) (.bool false) (by unfold RV;rfl)) λg' e=>aaB X a h.2 e
 .cases h
theorem af6(X:xZ P E I)(a:Y 0=some (Wg,W)){s:TS}(h:aeM E I s=true){g:Goroutine}(H:X4 Y c Z s.1 s.2.1 g):s.2.2=1∧V8 P ty Wg (Gv P ty Wg c Z) g:=by
 unfold aeM at h;split at h
 .rename_i p hp
  obtain⟨h1,args,i,fr,j,vs,rfl,k,e,f⟩:=LC X hp H;obtain rfl:=Ib i;obtain⟨v,rfl,l⟩:=args1 k;obtain rfl:=DN a l;rw[aF]at h;refine⟨h1,rfl,λw d=>⟨_,uI (f w).1 (o9 X.FW.load (CY d.cellSt)) ⟨rfl,by simp[vY]⟩,200,?_⟩,λw d=>⟨_,uI (f w).1 (o9 X.FW.load (CY d.cellSt)) ⟨rfl,by simp[vY]⟩,200,?_⟩⟩
  .exact Kz X a (e (.int .u64 KK) (.int .u64 KK) (by unfold RV;rfl)) λg' b=>ae3 X a h.1 b
  .exact Kz X a (e (.int .u64 0) (.int .u64 0) (by unfold RV;rfl)) λg' b=>VR X a h.2 b
 .cases h
theorem abV(X:xZ P E I)(h:wM E I=true)(c:Frame)(Z:List Frame):MLd P ty Wg (Gv P ty Wg c Z) 0 200 (G (Frame.enter P I.wait #[.pointer (some ⟨Wg,0,none⟩)] .normal) (c::Z)):=by
 unfold wM at h;split at h
 .rename_i f d
  let Y:Nm:=λi=>if i=0 then some (Wg,0)else none;have a:Y 0=some (Wg,0):=rfl;have e:dS Y [.ptr 0 0] (#[.pointer (some ⟨Wg,0,none⟩)]:Array Value).toList:=cO (by unfold RV;exact⟨_,a,rfl⟩) dG;have R:=lV X.FF d e (kind:= .normal) rfl;exact GK X a 200 f [] 0 _ ⟨_,[],rfl,R,rfl⟩ λg' b=>af6 X a h b
 .cases h
end
end
section
open Go.Conc
open Go.ConcN (sumTo sumTo_upd upd_same)
variable{es:Array Event}{fn:FuncId}{pos:String}
structure mW(Shun:Loc->Prop)(B d:Nat)(t:Trace):Prop where
 clean:∀said,¬Race said t
 known:∀i a,touchAt t i=some a->a.loc.isMemory=true->Knows t 0 i∨(Shun a.loc∧a.kind= .atomic)
 over:t.HandedOver
 hears:Deaf t 0=d
 seen:∀op∈t,op.act.low B
theorem mW.to{Shun:Loc->Prop}{B:Nat}{t:Trace}(h:mW Shun B 0 t):Past Shun B t:=⟨h.clean,h.known,h.over,h.hears,h.seen⟩
theorem mW.of{Shun:Loc->Prop}{B:Nat}{t:Trace}(h:Past Shun B t):mW Shun B 0 t:=⟨h.clean,h.known,h.over,h.hears,h.seen⟩
theorem mW.mono{Shun:Loc->Prop}{B B' d:Nat}{t:Trace}(h:mW Shun B d t)(b:B<=B'):mW Shun B' d t:=⟨h.clean,h.known,h.over,h.hears,λop a=>MemAct.low_mono b (h.seen op a)⟩
theorem mW.own{Shun:Loc->Prop}{B d:Nat}{t:Trace}(h:mW Shun B d t){fn:FuncId}{pos:String}{es:Array Event}
 (v:∀e∈es,∀x,(MemAct.ofEvent e).touch? =some x->Shun x.loc->x.kind≠.plain)(w:∀e∈es,(MemAct.ofEvent e).low B):mW Shun B (deafBehind d es) (t++MemOp.ofEvents 0 fn pos es):=by
 have j:∀op∈MemOp.ofEvents 0 fn pos es,op.g=0:=λop c=>by obtain⟨e,_,rfl⟩:=Go.Conc.mem_ofEvents c;rfl
 refine⟨λsaid=>noRace_append (h.clean said) j λi a k op c b y l=>?_,λi a k z=>?_,handedOver_app h.over λop c=> .inl (j op c),by rw[Deaf_own,h.hears],seen_app h.seen λop c=>by obtain⟨e,m,rfl⟩:=Go.Conc.mem_ofEvents c;exact w e m⟩
 .rcases h.known i a k l.2.1 with A|⟨n,o⟩
  .exact A
  .obtain⟨e,m,rfl⟩:=Go.Conc.mem_ofEvents c
   have p:=v e m b y (l.1▸n);obtain⟨_,_,_,f⟩:=l;rw[o]at f;rcases f with x|x|⟨_,x,_⟩
   .cases x
   .exact aX x p
   .cases x
 .obtain⟨x,u,q⟩:=touch_of k
  rcases getElem?_append_cases u with⟨_,r⟩|⟨_,s⟩
  .exact(h.known i a (by rw[touchAt_of r];exact q) z).imp (·.app _) id
  .have:=knows_own u
   rw[j x s]at this;exact .inl this
theorem mW.mute{Shun:Loc->Prop}{B d:Nat}{t:Trace}(h:mW Shun B d t){g:Nat}(q:g≠0){fn:FuncId}{pos:String}{es:Array Event}(j:∀e∈es,e.mute=true):mW Shun B d (t++MemOp.ofEvents g fn pos es):=by
 have o:∀op∈MemOp.ofEvents g fn pos es,op.g=g:=λop c=>by obtain⟨e,_,rfl⟩:=Go.Conc.mem_ofEvents c;rfl
 have k:∀op∈MemOp.ofEvents g fn pos es,op.act.touch? =none:=λop c=>by obtain⟨e,l,rfl⟩:=Go.Conc.mem_ofEvents c;exact touch_mute (j e l)
 have r:∀op∈MemOp.ofEvents g fn pos es,op.act.low B:=λop c=>by obtain⟨e,l,rfl⟩:=Go.Conc.mem_ofEvents c;exact low_mute (j e l) B
 refine⟨λsaid=>noRace_append (h.clean said) o λi a _ op c b p _=>(by rw[k op c]at p;cases p),λi a s j=>?_,handedOver_app h.over λop c=> .inr (k op c),(Deaf_other t q _ o).trans h.hears,seen_app h.seen r⟩;obtain⟨x,u,f⟩:=touch_of s;rcases getElem?_append_cases u with⟨_,m⟩|⟨_,n⟩
 .exact(h.known i a (by rw[touchAt_of m];exact f) j).imp (·.app _) id
 .rw[k x n]at f;cases f
theorem QC{e:Event}{x:Touch}(h:(MemAct.ofEvent e).touch? =some x):(∃l wr b,e=⟨l,wr,b⟩∧x.loc=l∧(∀m,l≠.mark m))∨(∃a wr b,e=⟨.mark (.read a),wr,b⟩∧x.loc= .cell a∧x.kind= .said)∨(∃a wr b,e=⟨.mark (.write a),wr,b⟩∧x.loc= .cell a∧x.kind= .said):=by
 obtain⟨d,wr,b⟩:=e;cases d with
 |mark m=>cases m<;>simp_all [MemAct.ofEvent,MemAct.touch?]<;>(first|(subst h;exact .inl ⟨_,_,rfl⟩)|(subst h;exact⟨rfl,rfl⟩)|(subst h;simp))
 |obj c=>
  left;refine⟨_,_,_,rfl,?_,λm=>by simp⟩;cases wr<;>cases b<;>simp[MemAct.ofEvent,MemAct.touch?]at h<;>(subst h;rfl)
 |cell a=>left;refine⟨_,_,_,rfl,?_,λm=>by simp⟩;simp[MemAct.ofEvent,MemAct.touch?]at h;subst h;rfl
 |output=>left;refine⟨_,_,_,rfl,?_,λm=>by simp⟩;simp[MemAct.ofEvent,MemAct.touch?]at h;subst h;rfl
 |goroutines=>left;refine⟨_,_,_,rfl,?_,λm=>by simp⟩;simp[MemAct.ofEvent,MemAct.touch?]at h;subst h;rfl
def Aq:Loc->Option Nat
 | .cell a=>some a.block
 | .obj r=>some r
 |_=>none
theorem zx{K:Ctx}{n:Nat}{e:Event}(h:EvG K n e){x:Touch}(d:(MemAct.ofEvent e).touch? =some x):∃b,Aq x.loc=some b∧(¬K.fz b∧K.own b∨K.peek∧K.fz b)∧b<n:=by
 rcases h with h|rfl|rfl
 .rcases QC d with⟨l,wr,f,rfl,c,g⟩|⟨a,wr,f,rfl,c,_⟩|⟨a,wr,f,rfl,c,_⟩
  .rw[c]
   cases l with
   |cell a=>exact⟨_,rfl,h.1.imp id λh=>⟨h.1,h.2.1⟩,h.2⟩
   |obj r=>exact⟨_,rfl,.inl ⟨h.1,h.2.1⟩,h.2.2.1⟩
   |mark m=>exact aX rfl (g m)
   |output=>exact h.elim
   |goroutines=>exact h.elim
  .rw[c];exact⟨_,rfl,.inl ⟨h.1,h.2.1⟩,h.2.2⟩
  .rw[c];exact⟨_,rfl,.inl ⟨h.1,h.2.1⟩,h.2.2⟩
 .simp[MemAct.ofEvent,MemAct.touch?]at d
 .simp[MemAct.ofEvent,MemAct.touch?]at d
theorem F5{K:Ctx}{n:Nat}{e:Event}(h:EvG K n e):(MemAct.ofEvent e).low n:=by
 rcases h with h|rfl|rfl
 .obtain⟨b,wr,c⟩:=e
  cases b with
  |cell a=>exact h.2
  |obj r=>cases wr<;>cases c<;>exact h.2.2.1
  |mark m=>cases m<;>first|exact h.2.2|trivial
  |output=>exact h.elim
  |goroutines=>exact h.elim
 .trivial
 .trivial
def V7(K:Ctx)(Shun:Loc->Prop):Prop:=∀l b,Shun l->Aq l=some b->¬(¬K.fz b∧K.own b)∧¬(K.peek∧K.fz b)
section
variable{P:Program}{K:Ctx}{Z:Loc->Prop}{Y:Nat->Goroutine->World->Prop}
def Reaches(P:Program)(c:Array Goroutine)(w:World)(sl:Option (Nat×Nat))(t:Trace)(Q:Array Goroutine->World->Option (Nat×Nat)->Trace->Prop):Prop:=
 ∃N a w' sl' b,runNT P N (crowd c w sl) t=(.next (crowd a w' sl'),b)∧Q a w' sl' b
theorem Reaches.here{a:Array Goroutine}{w:World}{sl:Option (Nat×Nat)}{t:Trace}{Q:Array Goroutine->World->Option (Nat×Nat)->Trace->Prop}(h:Q a w sl t):Reaches P a w sl t Q:=⟨0,a,w,sl,t,rfl,h⟩
theorem Reaches.step{d a:Array Goroutine}{w w1:World}{sl b:Option (Nat×Nat)}{t:Trace}{ops:Array MemOp}{Q:Array Goroutine->World->Option (Nat×Nat)->Trace->Prop}(h1:Go.stepT P (crowd d w sl)=(.next (crowd a w1 b),ops))(h:Reaches P a w1 b (t++ops) Q):Reaches P d w sl t Q:=by
 obtain⟨N,c,w',sl',e,hr,f⟩:=h;exact⟨N+1,c,w',sl',e,by simp only[runNT,h1];exact hr,f⟩
theorem Reaches.then{a:Array Goroutine}{w:World}{sl:Option (Nat×Nat)}{t:Trace}{Q f:Array Goroutine->World->Option (Nat×Nat)->Trace->Prop}(h:Reaches P a w sl t Q)(g:∀a w sl t,Q a w sl t->Reaches P a w sl t f):Reaches P a w sl t f:=by
 obtain⟨N,i,w',sl',k,hr,j⟩:=h;obtain⟨M,b,w2,c,t2,d,e⟩:=g _ _ _ _ j;exact⟨N+M,b,w2,c,t2,by rw[runNT_add,hr];exact d,e⟩
theorem BD{b:Array Goroutine}{w:World}{sl':Option (Nat×Nat)}{t:Trace}{q:Nat->Nat}(z:Leavers P t b q){a:Goroutine}(h0:b[0]? =some a)(m:a.status= .running){i d:Nat}{g:Goroutine}(n:0<i)(hi:b[i]? =some g)(s:g.status= .running):
 ∃k g' es,q i=k+1∧runT P (crowd b (w.at d) sl') i=(.next (crowd ((b.map (woken P g g' (w.at d))).setIfInBounds i g') (w.at d) sl'),MemOp.ofEvents i g.frame.fn g.frame.place es)∧(∀e∈es,e.mute=true)∧
  ((b.map (woken P g g' (w.at d))).setIfInBounds i g').size=b.size∧((b.map (woken P g g' (w.at d))).setIfInBounds i g')[0]? =some a∧Leavers P (t++MemOp.ofEvents i g.frame.fn g.frame.place es) ((b.map (woken P g g' (w.at d))).setIfInBounds i g') (ConcN.upd q i k)∧
  sumTo b.size (ConcN.upd q i k)<sumTo b.size q:=by
 have u:=z.old i g n hi;have A:(i==0)=false:=by simp;omega
 have o:i<b.size:=(aV.1 hi).1;cases f:q i with
 |zero=>rw[f]at u;rw[u.1]at s;cases s
 |succ k=>
  rw[f]at u;rcases u with⟨E,_⟩|⟨_,g',es,F,p,B⟩
  .rw[E]at s;cases s
  have h:=runT_crowd_go (P:=P) (sl:=sl') (i:=i) hi (by rw[A];exact p (w.at d));have D:sumTo b.size (ConcN.upd q i k)+(k+1)=sumTo b.size q+k:=by
   have:=sumTo_upd q k id o;simpa[f]using this
  refine⟨k,g',es,rfl,h,F,by simp,?_,⟨λj x hj v=>?_,λj hj=>?_⟩,by omega⟩
  .have C:i≠0:=by omega
   rw[bW C,jy,h0];simp[woken_run m]
  .by_cases c:i=j
   .subst c
    rw[kN (by simpa using o)]at v;obtain rfl:=aN v;rw[upd_same,Deaf_own];exact B
   .rw[bW c,jy]at v
    obtain⟨y,G,rfl⟩:=aP.1 v;have r:=z.old j y hj G;rw[woken_quitsD r,ConcN.upd_ne q k (Ne.symm c),Deaf_other t c _ (λop l=>by obtain⟨e,_,rfl⟩:=Go.Conc.mem_ofEvents l;rfl)];exact r
  .rw[Deaf_other t (g':=i) (by simp at hj;omega) _ (λop l=>by obtain⟨e,_,rfl⟩:=Go.Conc.mem_ofEvents l;rfl)]
   exact z.above j (by simpa using hj)
theorem uS{c:Array Goroutine}{t:Trace}{q:Nat->Nat}(f:Leavers P t c q){a g:Goroutine}{w':World}(h0:c[0]? =some a):Leavers P (t++MemOp.ofEvents 0 fn pos es) ((c.map (woken P a g w')).setIfInBounds 0 g) q:=by
 refine⟨λj x hj h=>?_,λj hj=>?_⟩
 .have d:0≠j:=by omega
  rw[bW d,jy]at h;obtain⟨y,k,rfl⟩:=aP.1 h;have i:=f.old j y hj k;rw[woken_quitsD i,Deaf_other t (by omega) _ (λop b=>by obtain⟨e,_,rfl⟩:=Go.Conc.mem_ofEvents b;rfl)];exact i
 .have l:0<c.size:=(aV.1 h0).1
  rw[Deaf_other t (g':=0) (by simp at hj;omega) _ (λop b=>by obtain⟨e,_,rfl⟩:=Go.Conc.mem_ofEvents b;rfl)];exact f.above j (by simpa using hj)
theorem Eh{d:Array Goroutine}{t:Trace}{q:Nat->Nat}(e:Leavers P t d q){a:Goroutine}(h0:d[0]? =some a)(b:a.status= .running):∀g∈d,awake g:=by
 intro g f;obtain⟨i,hi,rfl⟩:=Array.mem_iff_getElem.1 f;rcases jw i with rfl|c
 .have:d[0]=a:=by simpa[dI hi]using h0
  rw[this];exact awake_of (.inl b)
 .exact awake_of ((e.old i _ c (dI hi)).status.elim .inl λx=> .inr (.inr x))
def Frm(P:Program)(Z:Loc->Prop)(n:Nat)(T:Nat->Goroutine->World->Prop):Array Goroutine->World->Option (Nat×Nat)->Trace->Prop:=λb w _ t=>
 ∃a d q,b.size=n∧b[0]? =some a∧T d a w∧Leavers P t b q∧mW Z w.heap.size d t
theorem yV(G:V7 K Z){d:Nat}{a:Goroutine}{w:World}(I:Walk P true K Y d a w):∀(c:World),kX K w c->∀(f:Array Goroutine) (sl:Option (Nat×Nat)) (t:Trace) (q:Nat->Nat),f[0]? =some a->Leavers P t f q->mW Z c.heap.size d t->
 Reaches P f c sl t (Frm P Z f.size Y):=by
 induction I with
 |stop h=>exact λc hr f sl t q h0 o s=> .here ⟨_,_,q,rfl,h0,h c hr,o,s⟩
 |@step d a w g' w' es m A _ J=>
  have p:∀(S:Nat) (c:World),kX K w c->∀(f:Array Goroutine) (sl:Option (Nat×Nat)) (t:Trace) (q:Nat->Nat),sumTo f.size q<=S->f[0]? =some a->Leavers P t f q->mW Z c.heap.size d t->Reaches P f c sl t (Frm P Z f.size Y):=by
   intro S;induction S using Nat.strongRecOn with
   |ind S B=>
    intro c hr f sl t q T h0 o s;obtain⟨i,g,j,sl',hi,L,u⟩:=crowd_pick (P:=P) (w:=c) (sl:=sl) (Eh o h0 m) ⟨0,a,h0,m⟩;have r:kX K w (c.at j):=hr.trans (kX.drawn c j);rcases jw i with rfl|v
    .obtain rfl:g=a:=by rw[h0]at hi;exact(aN hi).symm
     obtain⟨h1,C⟩:=A (c.at j) r;have l:=runT_crowd_go (P:=P) (sl:=sl') (i:=0) hi (show stepG P (0==0) g (c.at j)=_ from h1);have n:((f.map (woken P g (g' (c.at j)) (w' (c.at j)))).setIfInBounds 0 (g' (c.at j))).size=f.size:=by simp
     have y:0<f.size:=(aV.1 h0).1;have M:(c.at j).heap.size<=(w' (c.at j)).heap.size:=C.size;have:=J (c.at j) r _ (kX.refl _) ((f.map (woken P g (g' (c.at j)) (w' (c.at j)))).setIfInBounds 0 (g' (c.at j))) sl' _ q (by simp[y]) (uS o h0)
      ((s.mono M).own (fn:=g.frame.fn) (pos:=g.frame.place) (λe D x N z=>by
        obtain⟨b,H,hb1,_⟩:=zx (C.evs e D) N;exact aX hb1 λh=>h.elim (G _ b z H).1 (G _ b z H).2) (λe D=>F5 (C.evs e D)))
     rw[n]at this;exact Reaches.step (by rw[u];exact l) this
    .obtain⟨k,U,O,Q,l,R,n,E,F,y⟩:=BD (w:=c) (sl':=sl') (d:=j) o h0 m v hi L
     have:=B (sumTo f.size (ConcN.upd q i k)) (by omega) (c.at j) r _ sl' _ (ConcN.upd q i k) (by rw[n];exact aj _) E F (s.mute (by omega) R);rw[n]at this;exact Reaches.step (by rw[u];exact l) this
  exact λc hr f sl t q h0 o s=>p _ c hr f sl t q (aj _) h0 o s
end
end
section
open Go.Conc
open Go.ConcX (stA smA OfWg)
open Go.ConcN (RelBy)
structure Jo(Shun:Loc->Prop)(Wg j B d0 d1:Nat)(rel:Option Nat)(t:Trace):Prop where
 clean:∀said,¬Race said t
 k0:∀i a,touchAt t i=some a->a.loc.isMemory=true->Knows t 0 i∨(Shun a.loc∧a.kind= .atomic)∨t.g? i=some j
 k1:∀i a,touchAt t i=some a->a.loc.isMemory=true->Knows t j i∨(Shun a.loc∧a.kind= .atomic)∨(OfWg Wg a.loc∧a.kind≠.plain)
 wk:∀i a,touchAt t i=some a->t.g? i=some j->OfWg Wg a.loc->a.kind= .atomic∨Knows t 0 i
 over:∀i g,t.g? i=some g->g≠0->g≠j->t.counts i->∃k,t.g? k=some 0∧HappensBefore t i k
 low:∀op∈t,op.act.low B
 deaf0:Deaf t 0=d0
 deaf1:Deaf t j=d1
 rel:∀r,rel=some r->RelBy (stA Wg) t j r∧(∀i,r<i->t.act? i≠some (.mark (.release (stA Wg))))∧(∀i a,r<i->t.g? i=some j->touchAt t i=some a->OfWg Wg a.loc)
section
variable{Z:Loc->Prop}{Y j B V W:Nat}{X:Option Nat}{t:Trace}
theorem g?_of{t:Trace}{i:Nat}{op:MemOp}(h:t[i]? =some op):t.g? i=some op.g:=by simp[Trace.g?,h]
theorem aaM{t:Trace}{i g:Nat}(h:t.g? i=some g):i<t.size:=by
 obtain⟨op,a,_⟩:=aP.1 h;exact lt_size_of_getElem? a
theorem Fg{u:Trace}(h:∀i g,t.g? i=some g->g≠0->g≠j->t.counts i->∃k,t.g? k=some 0∧HappensBefore t i k)(o:∀op∈u,op.g=0∨op.g=j∨op.act.touch? =none):
 ∀i g,(t++u).g? i=some g->g≠0->g≠j->(t++u).counts i->∃k,(t++u).g? k=some 0∧HappensBefore (t++u) i k:=by
 intro i g e h0 hj p;obtain⟨x,l,_⟩:=p;obtain⟨op,a,b⟩:=touch_of l;rcases getElem?_append_cases a with⟨hi,m⟩|⟨_,c⟩
 .obtain⟨k,n,q⟩:=h i g (by rw[← e];simp[Trace.g?,getElem?_append_old hi]) h0 hj ((counts_old hi).1 ⟨x,l,‹_›⟩)
  have f:=aaM n;exact⟨k,by rw[g?_old f];exact n,hb_app u q⟩
 .have d:op.g=g:=by rw[g?_of a]at e;exact aN e
  rcases o op c with h1|h1|h1
  .exact aX (d.symm.trans h1) h0
  .exact aX (d.symm.trans h1) hj
  .rw[h1]at b;cases b
theorem Nk{u:Trace}{g:Nat}(h:∀r,X=some r->RelBy (stA Y) t j r∧(∀i,r<i->t.act? i≠some (.mark (.release (stA Y))))∧(∀i a,r<i->t.g? i=some j->touchAt t i=some a->OfWg Y a.loc))
 (m:∀op∈u,op.g=g)(n:g≠j)(hr:∀op∈u,op.act≠.mark (.release (stA Y))):
 ∀r,X=some r->RelBy (stA Y) (t++u) j r∧(∀i,r<i->(t++u).act? i≠some (.mark (.release (stA Y))))∧(∀i a,r<i->(t++u).g? i=some j->touchAt (t++u) i=some a->OfWg Y a.loc):=by
 intro r k;obtain⟨h1,p,q⟩:=h r k;refine⟨h1.appOther m n,λi hi l=>?_,λi a hi c l=>?_⟩
 .obtain⟨op,f,b⟩:=aP.1 l
  rcases getElem?_append_cases f with⟨o,d⟩|⟨_,e⟩
  .exact p i hi (by rw[act?_of d,b])
  .exact hr op e b
 .obtain⟨op,f,b⟩:=touch_of l
  rcases getElem?_append_cases f with⟨o,d⟩|⟨_,e⟩
  .exact q i a hi (by rw[← c,g?_old o]) (by rw[touchAt_of d];exact b)
  .have:op.g=j:=by rw[g?_of f]at c;exact aN c
   exact aX ((m op e).symm.trans this) n
theorem Jo.main(h:Jo Z Y j B V W X t)(hj:j≠0){B':Nat}(C:B<=B')(y:∀l,Z l->¬OfWg Y l){fn:FuncId}{pos:String}{es:Array Event}
 (D:∀e∈es,∀x,(MemAct.ofEvent e).touch? =some x->OfWg Y x.loc∧x.kind≠.plain)(hr:∀e∈es,e.loc≠.mark (.release (stA Y)))(E:∀e∈es,(MemAct.ofEvent e).low B'):
 Jo Z Y j B' (deafBehind V es) W X (t++MemOp.ofEvents 0 fn pos es):=by
 have q:∀op∈MemOp.ofEvents 0 fn pos es,op.g=0:=λop c=>by obtain⟨e,_,rfl⟩:=Go.Conc.mem_ofEvents c;rfl
 have v:∀op∈MemOp.ofEvents 0 fn pos es,∀x,op.act.touch? =some x->OfWg Y x.loc∧x.kind≠.plain:=λop c x v=>by obtain⟨e,r,rfl⟩:=Go.Conc.mem_ofEvents c;exact D e r x v
 refine⟨λsaid=>noRace_append (h.clean said) q λi a o op c b F z=>?_,λi a o A=>?_,λi a o A=>?_,λi a o s w=>?_,Fg h.over λop c=> .inl (q op c),λop c=>?_,by rw[Deaf_own,h.deaf0],by rw[Deaf_other t (g':=0) (Ne.symm hj) _ q,h.deaf1],Nk h.rel q (Ne.symm hj) λop c=>?_⟩
 .obtain⟨h1,G⟩:=v op c b F
  have w:OfWg Y a.loc:=by rw[z.1];exact h1
  rcases h.k0 i a o z.2.1 with u|⟨H,_⟩|s
  .exact u
  .exact aX w (y _ H)
  .rcases h.wk i a o s w with u|u
   .obtain⟨_,_,_,k⟩:=z
    rw[u]at k;rcases k with x|x|⟨_,x,_⟩
    .cases x
    .exact aX x G
    .cases x
   .exact u
 .obtain⟨x,d,f⟩:=touch_of o
  rcases getElem?_append_cases d with⟨p,m⟩|⟨_,n⟩
  .rcases h.k0 i a (by rw[touchAt_of m];exact f) A with h1|h1|h1
   .exact .inl (h1.app _)
   .exact .inr (.inl h1)
   .exact .inr (.inr (by rw[g?_old p];exact h1))
  .have:=knows_own d
   rw[q x n]at this;exact .inl this
 .obtain⟨x,d,f⟩:=touch_of o
  rcases getElem?_append_cases d with⟨_,m⟩|⟨_,n⟩
  .exact(h.k1 i a (by rw[touchAt_of m];exact f) A).imp (·.app _) id
  .exact .inr (.inr (v x n a f))
 .obtain⟨x,d,f⟩:=touch_of o
  rcases getElem?_append_cases d with⟨p,m⟩|⟨_,n⟩
  .exact(h.wk i a (by rw[touchAt_of m];exact f) (by rw[← s,g?_old p]) w).imp id (·.app _)
  .have:x.g=j:=by rw[g?_of d]at s;exact aN s
   exact aX (this.symm.trans (q x n)) hj
 .rcases qG.1 c with c|c
  .exact MemAct.low_mono C (h.low op c)
  .obtain⟨e,r,rfl⟩:=Go.Conc.mem_ofEvents c;exact E e r
 .obtain⟨e,r,rfl⟩:=Go.Conc.mem_ofEvents c
  exact λo=>hr e r (ConcR.loc_of_ofEvent o)
theorem Jo.leaver(h:Jo Z Y j B V W X t){g:Nat}(h0:g≠0)(hj:g≠j){fn:FuncId}{pos:String}{es:Array Event}(p:∀e∈es,e.mute=true):Jo Z Y j B V W X (t++MemOp.ofEvents g fn pos es):=by
 have o:∀op∈MemOp.ofEvents g fn pos es,op.g=g:=λop c=>by obtain⟨e,_,rfl⟩:=Go.Conc.mem_ofEvents c;rfl
 have q:∀op∈MemOp.ofEvents g fn pos es,op.act.touch? =none:=λop c=>by obtain⟨e,n,rfl⟩:=Go.Conc.mem_ofEvents c;exact touch_mute (p e n)
 have old:∀{i a},touchAt (t++MemOp.ofEvents g fn pos es) i=some a->i<t.size∧touchAt t i=some a:=λ{i a} k=>by
  obtain⟨x,r,l⟩:=touch_of k;rcases getElem?_append_cases r with⟨d,s⟩|⟨_,u⟩
  .exact⟨d,by rw[touchAt_of s];exact l⟩
  .rw[q x u]at l;cases l
 refine⟨λsaid=>noRace_append (h.clean said) o λi a _ op c b v _=>(by rw[q op c]at v;cases v),λi a k m=>?_,λi a k m=>?_,λi a k y z=>?_,Fg h.over λop c=> .inr (.inr (q op c)),λop c=>?_,by rw[Deaf_other t h0 _ o,h.deaf0],by rw[Deaf_other t hj _ o,h.deaf1],Nk h.rel o hj λop c=>?_⟩
 .obtain⟨d,f⟩:=old k
  rcases h.k0 i a f m with h1|h1|h1
  .exact .inl (h1.app _)
  .exact .inr (.inl h1)
  .exact .inr (.inr (by rw[g?_old d];exact h1))
 .obtain⟨d,f⟩:=old k
  exact(h.k1 i a f m).imp (·.app _) id
 .obtain⟨d,f⟩:=old k
  exact(h.wk i a f (by rw[← y,g?_old d]) z).imp id (·.app _)
 .rcases qG.1 c with c|c
  .exact h.low op c
  .obtain⟨e,n,rfl⟩:=Go.Conc.mem_ofEvents c;exact low_mute (p e n) B
 .obtain⟨e,n,rfl⟩:=Go.Conc.mem_ofEvents c
  intro k;have:=p e n;have w:=ConcR.loc_of_ofEvent k;obtain⟨A,wr,C⟩:=e;simp only at w;subst w;cases this
theorem Jo.worker(h:Jo Z Y j B V W X t)(hj:j≠0){B':Nat}(G:B<=B')(y:∀l,Z l->¬OfWg Y l){fn:FuncId}{pos:String}{es:Array Event}
 (H:∀e∈es,∀x,(MemAct.ofEvent e).touch? =some x->(¬Z x.loc∧¬OfWg Y x.loc)∨(OfWg Y x.loc∧x.kind= .atomic))(I:∀e∈es,(MemAct.ofEvent e).low B')
 {rel':Option Nat}(q:∀r,rel'=some r->RelBy (stA Y) (t++MemOp.ofEvents j fn pos es) j r∧(∀i,r<i->(t++MemOp.ofEvents j fn pos es).act? i≠some (.mark (.release (stA Y))))∧(∀i a,r<i->(t++MemOp.ofEvents j fn pos es).g? i=some j->touchAt (t++MemOp.ofEvents j fn pos es) i=some a->OfWg Y a.loc)):
 Jo Z Y j B' V (deafBehind W es) rel' (t++MemOp.ofEvents j fn pos es):=by
 have s:∀op∈MemOp.ofEvents j fn pos es,op.g=j:=λop c=>by obtain⟨e,_,rfl⟩:=Go.Conc.mem_ofEvents c;rfl
 have u:∀op∈MemOp.ofEvents j fn pos es,∀x,op.act.touch? =some x->(¬Z x.loc∧¬OfWg Y x.loc)∨(OfWg Y x.loc∧x.kind= .atomic):=λop c x u=>by obtain⟨e,z,rfl⟩:=Go.Conc.mem_ofEvents c;exact H e z x u
 refine⟨λsaid=>noRace_append (h.clean said) s λi a o op c b E w=>?_,λi a o A=>?_,λi a o A=>?_,λi a o J F=>?_,Fg h.over λop c=> .inr (.inl (s op c)),λop c=>?_,by rw[Deaf_other t hj _ s,h.deaf0],by rw[Deaf_own,h.deaf1],q⟩
 .rcases h.k1 i a o w.2.1 with C|⟨D,_⟩|⟨K,C⟩
  .exact C
  .rw[w.1]at D
   rcases u op c b E with⟨h1,_⟩|⟨h1,_⟩
   .exact aX D h1
   .exact aX h1 (y _ D)
  .have v:=K
   rw[w.1]at v;rcases u op c b E with⟨_,h1⟩|⟨_,h1⟩
   .exact aX v h1
   .obtain⟨_,_,_,k⟩:=w
    rw[h1]at k;rcases k with x|x|⟨_,_,x⟩
    .exact aX x C
    .cases x
    .cases x
 .obtain⟨x,d,f⟩:=touch_of o
  rcases getElem?_append_cases d with⟨p,m⟩|⟨_,n⟩
  .rcases h.k0 i a (by rw[touchAt_of m];exact f) A with h1|h1|h1
   .exact .inl (h1.app _)
   .exact .inr (.inl h1)
   .exact .inr (.inr (by rw[g?_old p];exact h1))
  .exact .inr (.inr (by rw[g?_of d,s x n]))
 .obtain⟨x,d,f⟩:=touch_of o
  rcases getElem?_append_cases d with⟨_,m⟩|⟨_,n⟩
  .exact(h.k1 i a (by rw[touchAt_of m];exact f) A).imp (·.app _) id
  .have:=knows_own d
   rw[s x n]at this;exact .inl this
 .obtain⟨x,d,f⟩:=touch_of o
  rcases getElem?_append_cases d with⟨p,m⟩|⟨_,n⟩
  .exact(h.wk i a (by rw[touchAt_of m];exact f) (by rw[← J,g?_old p]) F).imp id (·.app _)
  .rcases u x n a f with⟨_,h1⟩|⟨_,h1⟩
   .exact aX F h1
   .exact .inl h1
 .rcases qG.1 c with c|c
  .exact MemAct.low_mono G (h.low op c)
  .obtain⟨e,z,rfl⟩:=Go.Conc.mem_ofEvents c;exact I e z
theorem Jo.tail(h:Jo Z Y j B V W X t)(hj:j≠0)(o:∀l,Z l->¬OfWg Y l)(A:Y<B){fn:FuncId}{pos:String}{es:Array Event}
 (y:∀k e,es[k]? =some e->(MemAct.ofEvent e).touch? =none∨((∃off wr,e=⟨.cell ⟨Y,off,none⟩,wr,true⟩)∧0<deafBehind W (es.extract 0 k)))(hr:∀e∈es,e.loc≠.mark (.release (stA Y)))(C:∀e∈es,(MemAct.ofEvent e).low B):
 Jo Z Y j B V (deafBehind W es) X (t++MemOp.ofEvents j fn pos es):=by
 have G:∀op∈MemOp.ofEvents j fn pos es,op.g=j:=λop p=>by obtain⟨e,_,rfl⟩:=Go.Conc.mem_ofEvents p;rfl
 have z:∀e∈es,∀x,(MemAct.ofEvent e).touch? =some x->OfWg Y x.loc∧x.kind= .atomic:=λe c x m=>by
  obtain⟨k,q⟩:=Array.mem_iff_getElem?.1 c;rcases y k e q with h1|⟨⟨off,wr,rfl⟩,_⟩
  .rw[h1]at m;cases m
  .cases wr<;>simp[MemAct.ofEvent,MemAct.touch?]at m<;>(subst m;exact⟨⟨_,rfl,rfl⟩,rfl⟩)
 refine h.worker hj (aj _) o (λe c x m=> .inr (z e c x m)) C λr s=>?_;obtain⟨h1,D,E⟩:=h.rel r s;refine⟨h1.appOwn fn pos es λk e q=>?_,λi hi u=>?_,λi a hi v u=>?_⟩
 .rcases y k e q with h1|⟨⟨off,wr,rfl⟩,F⟩
  .exact .inl h1
  .exact .inr ⟨⟨_,_,rfl⟩,by rw[h.deaf1];exact F⟩
 .obtain⟨op,w,b⟩:=aP.1 u
  rcases getElem?_append_cases w with⟨n,d⟩|⟨_,f⟩
  .exact D i hi (by rw[act?_of d,b])
  .obtain⟨e,c,rfl⟩:=Go.Conc.mem_ofEvents f
   exact hr e c (ConcR.loc_of_ofEvent b)
 .obtain⟨op,w,b⟩:=touch_of u
  rcases getElem?_append_cases w with⟨n,d⟩|⟨_,f⟩
  .exact E i a hi (by rw[← v,g?_old n]) (by rw[touchAt_of d];exact b)
  .obtain⟨e,c,rfl⟩:=Go.Conc.mem_ofEvents f
   exact(z e c a b).1
theorem Jo.release(h:Jo Z Y j B V 0 none t)(hj:j≠0)(f:∀l,Z l->¬OfWg Y l)(k:Y<B){fn:FuncId}{pos:String}:
 Jo Z Y j B V 0 (some t.size) (t++MemOp.ofEvents j fn pos #[sZ (.releaseMerge (stA Y))]):=by
 have e1:MemOp.ofEvents j fn pos #[sZ (.releaseMerge (stA Y))]=#[{ g:=j,fn,pos,act:= .mark (.releaseMerge (stA Y)) }]:=by rw[ofEvents_eq];simp[sZ,MemAct.ofEvent]
 have b:∀i op,t.size<i->(t++MemOp.ofEvents j fn pos #[sZ (.releaseMerge (stA Y))])[i]? =some op->False:=λi op hi c=>by
  have:=lt_size_of_getElem? c;rw[e1]at this;simp at this;omega
 have e2:deafBehind 0 #[sZ (.releaseMerge (stA Y))]=0:=rfl;rw[← e2];refine(h.worker hj (aj _) f (rel':=some t.size) (λe d x n=>?_) (λe d=>?_) λr hr=>?_)
 .simp at d;subst d;simp[sZ,MemAct.ofEvent,MemAct.touch?]at n
 .simp at d;subst d;exact k
 .cases hr
  refine⟨ConcN.RelBy.new h.deaf1 fn pos,λi hi m=>?_,λi a hi _ m=>?_⟩
  .obtain⟨op,c,_⟩:=aP.1 m
   exact b i op hi c
  .obtain⟨op,c,_⟩:=touch_of m
   exact(b i op hi c).elim
theorem Jo.fork(h:mW Z B 0 t)(hj:j≠0)(z:Deaf t j=0)(C:∀l,Z l->¬OfWg Y l)(fn d:FuncId)(pos c:String):
 Jo Z Y j B 0 0 none ((t.push { g:=0,fn,pos,act:= .go j }).push { g:=j,fn:=d,pos:=c,act:= .start }):=by
 have e:(t.push { g:=0,fn,pos,act:= .go j }).push { g:=j,fn:=d,pos:=c,act:= .start }=t++#[{ g:=0,fn,pos,act:= .go j },{ g:=j,fn:=d,pos:=c,act:= .start }]:=by
  apply dH.1;simp
 rw[e];have n:(t++#[({ g:=0,fn,pos,act:= .go j }:MemOp),{ g:=j,fn:=d,pos:=c,act:= .start }])[t.size]? =some { g:=0,fn,pos,act:= .go j }:=by simp
 have o:(t++#[({ g:=0,fn,pos,act:= .go j }:MemOp),{ g:=j,fn:=d,pos:=c,act:= .start }])[t.size+1]? =some { g:=j,fn:=d,pos:=c,act:= .start }:=by simp[Array.getElem?_append]
 have D:Deaf (t++#[({ g:=0,fn,pos,act:= .go j }:MemOp),{ g:=j,fn:=d,pos:=c,act:= .start }]) 0=0:=by
  have:=Deaf_append t 0 [({ g:=0,fn,pos,act:= .go j }:MemOp),{ g:=j,fn:=d,pos:=c,act:= .start }];simp only[kY,List.foldl_nil,deafStep]at this;rw[h.hears]at this;exact this
 have E:Deaf (t++#[({ g:=0,fn,pos,act:= .go j }:MemOp),{ g:=j,fn:=d,pos:=c,act:= .start }]) j=0:=by
  have:=Deaf_append t j [({ g:=0,fn,pos,act:= .go j }:MemOp),{ g:=j,fn:=d,pos:=c,act:= .start }];simp only[kY,List.foldl_nil,deafStep]at this;rw[z]at this;exact this
 have L:∀op∈(#[({ g:=0,fn,pos,act:= .go j }:MemOp),{ g:=j,fn:=d,pos:=c,act:= .start }]:Trace),op.act.touch? =none:=λop f=>by
  simp at f;rcases f with rfl|rfl<;>rfl
 have old:∀{i a},touchAt (t++#[({ g:=0,fn,pos,act:= .go j }:MemOp),{ g:=j,fn:=d,pos:=c,act:= .start }]) i=some a->i<t.size∧touchAt t i=some a:=λ{i a} q=>by
  obtain⟨x,F,y⟩:=touch_of q;rcases getElem?_append_cases F with⟨s,G⟩|⟨_,H⟩
  .exact⟨s,by rw[touchAt_of G];exact y⟩
  .rw[L x H]at y;cases y
 have u:∀said,¬Race said (t++#[({ g:=0,fn,pos,act:= .go j }:MemOp),{ g:=j,fn:=d,pos:=c,act:= .start }]):=by
  intro said
  rintro⟨i,k,I,⟨a,b,q,P,J⟩,Q,R⟩
  obtain⟨hi,m⟩:=old q;obtain⟨M,K⟩:=old P;exact h.clean said ⟨i,k,I,⟨a,b,m,K,J⟩,λx=>Q (hb_app _ x),λx=>R (hb_app _ x)⟩
 have v:(t++#[({ g:=0,fn,pos,act:= .go j }:MemOp),{ g:=j,fn:=d,pos:=c,act:= .start }]).heard t.size:=⟨0,by rw[g?_of n],by rw[deaf_old (aj _)];exact h.hears⟩;have w:(t++#[({ g:=0,fn,pos,act:= .go j }:MemOp),{ g:=j,fn:=d,pos:=c,act:= .start }]).heard (t.size+1):=by
  refine⟨j,by rw[g?_of o],?_⟩;rw[deaf_succ n];simp only[deafStep];rw[deaf_old (aj _)];exact z
 have edge:HappensBefore (t++#[({ g:=0,fn,pos,act:= .go j }:MemOp),{ g:=j,fn:=d,pos:=c,act:= .start }]) t.size (t.size+1):=
  .single (.inr ⟨.spawn (child:=j) (by rw[act?_of n]) (by rw[act?_of o]) (by rw[g?_of o]),v,w⟩)
 refine⟨u,λi a q A=>?_,λi a q A=>?_,λi a q N O=>?_,Fg (λi g N h0 _ J=>h.over i g N h0 J) λop f=> .inr (.inr (L op f)),λop f=>?_,D,E,λr hr=>by cases hr⟩
 .obtain⟨s,m⟩:=old q
  rcases h.known i a m A with h1|h1
  .exact .inl (h1.app _)
  .exact .inr (.inl h1)
 .obtain⟨s,m⟩:=old q
  rcases h.known i a m A with h1|h1
  .left
   refine⟨t.size+1,_,o,rfl,?_⟩;have M:=h1.hb_new (aj _) n rfl;exact .inr (M.trans edge)
  .exact .inr (.inl h1)
 .obtain⟨s,m⟩:=old q
  have A:a.loc.isMemory=true:=by obtain⟨p,hp,_⟩:=O;rw[hp];rfl
  rcases h.known i a m A with h1|h1
  .exact .inr (h1.app _)
  .exact aX O (C _ h1.1)
 .rcases qG.1 f with f|f
  .exact h.seen op f
  .simp at f;rcases f with rfl|rfl<;>trivial
theorem Jo.acquire(h:Jo Z Y j B 0 W X t){r:Nat}(u:X=some r)(hj:j≠0)(G:Y<B){fn:FuncId}{pos:String}:
 mW (λl=>Z l∨OfWg Y l) B 0 (t++MemOp.ofEvents 0 fn pos #[sZ (.acquire (stA Y))]):=by
 obtain⟨hr,H,n⟩:=h.rel r u;have e1:MemOp.ofEvents 0 fn pos #[sZ (.acquire (stA Y))]=#[{ g:=0,fn,pos,act:= .mark (.acquire (stA Y)) }]:=by rw[ofEvents_eq];simp[sZ,MemAct.ofEvent]
 have v:Deaf (t++MemOp.ofEvents 0 fn pos #[sZ (.acquire (stA Y))]) 0=0:=by rw[Deaf_own,h.deaf0];rfl
 rw[e1]at v ⊢;have E:(t++#[({ g:=0,fn,pos,act:= .mark (.acquire (stA Y)) }:MemOp)])[t.size]? =some { g:=0,fn,pos,act:= .mark (.acquire (stA Y)) }:=by simp
 have S:∀op∈(#[({ g:=0,fn,pos,act:= .mark (.acquire (stA Y)) }:MemOp)]:Trace),op.g=0:=λop c=>by simp at c;subst c;rfl
 have P:∀op∈(#[({ g:=0,fn,pos,act:= .mark (.acquire (stA Y)) }:MemOp)]:Trace),op.act.touch? =none:=λop c=>by simp at c;subst c;rfl
 have e:r<t.size:=lt_of_act? hr.act;have I:(t++#[({ g:=0,fn,pos,act:= .mark (.acquire (stA Y)) }:MemOp)]).heard t.size:=⟨0,by rw[g?_of E],by rw[deaf_old (aj _)];exact h.deaf0⟩;have edge:HappensBefore (t++#[({ g:=0,fn,pos,act:= .mark (.acquire (stA Y)) }:MemOp)]) r t.size:=
  .single (.inr ⟨.marked e (.inr (by rw[act?_old e];exact hr.act)) (by rw[act?_of E]) (λk h1 J=>by rw[act?_old J];exact H k h1),(heard_old e).2 hr.heard,I⟩)
 have m:∀i,t.g? i=some j->i<=r->HappensBefore (t++#[({ g:=0,fn,pos,act:= .mark (.acquire (stA Y)) }:MemOp)]) i t.size:=λi w f=>by
  rcases aT i r with d|T
  .have:=aaM w
   exact .trans (.single (.inl ⟨d,j,by rw[g?_old this];exact w,by rw[g?_old e];exact hr.g⟩)) edge
  .obtain rfl:i=r:=by omega
   exact edge
 have old:∀{i a},touchAt (t++#[({ g:=0,fn,pos,act:= .mark (.acquire (stA Y)) }:MemOp)]) i=some a->i<t.size∧touchAt t i=some a:=λ{i a} K=>by
  obtain⟨x,L,o⟩:=touch_of K;rcases getElem?_append_cases L with⟨d,y⟩|⟨_,M⟩
  .exact⟨d,by rw[touchAt_of y];exact o⟩
  .rw[P x M]at o;cases o
 refine⟨λsaid=>noRace_append (h.clean said) S λi a _ op c b F _=>(by rw[P op c]at F;cases F),λi a K Q=>?_,λi g z h0 U=>?_,v,λop c=>?_⟩
 .obtain⟨d,p⟩:=old K
  rcases h.k0 i a p Q with h1|⟨h1,J⟩|z
  .exact .inl (h1.app _)
  .exact .inr ⟨.inl h1,J⟩
  .rcases aT r i with d|f
   .have N:=hr.after i d z
    have q:a.kind= .atomic:=by
     by_cases q:a.kind= .atomic
     .exact q
     .exact aX ⟨a,p,Q,.inl q⟩ N
    exact .inr ⟨.inr (n i a d z p),q⟩
   .exact .inl ⟨t.size,_,E,rfl,.inr (m i z f)⟩
 .obtain⟨x,R,A,O⟩:=U
  obtain⟨d,y⟩:=old R;have s:t.g? i=some g:=by rw[← z,g?_old d]
  have C:t.counts i:=(counts_old d).1 ⟨x,R,A,O⟩;by_cases D:g=j
  .subst D
   rcases aT r i with hl|f
   .exact aX C (hr.after i hl s)
   .exact⟨t.size,by rw[g?_of E],m i s f⟩
  .obtain⟨k,q,F⟩:=h.over i g s h0 D C
   exact⟨k,by rw[g?_old (aaM q)];exact q,hb_app _ F⟩
 .rcases qG.1 c with c|c
  .exact h.low op c
  .simp at c;subst c;exact G
end
end
section
open Go.Conc
open Go.ConcX (WgAt wgBlock stA smA KK OfWg)
open Go.ConcN (sumTo sumTo_upd upd_same)
def JEv(Wg:Nat)(e:Event):Prop:=MEv Wg e∨∃a wr,e=⟨.cell a,wr,true⟩∧a.block=Wg
section
variable{Wg:Nat}{e:Event}
theorem Af:JEv Wg (vY (stA Wg)):= .inr ⟨_,_,rfl,rfl⟩
theorem KM:JEv Wg (Ed (stA Wg)):= .inr ⟨_,_,rfl,rfl⟩
theorem Pq:∀e∈semEvents (smA Wg),JEv Wg e:=λe a=>by
 simp[semEvents]at a;rcases a with rfl|rfl|rfl|rfl
 .exact .inl (.inr (.inl rfl))
 .exact .inr ⟨_,_,rfl,rfl⟩
 .exact .inr ⟨_,_,rfl,rfl⟩
 .exact .inl (.inr (.inr (.inl rfl)))
theorem Ia(h:JEv Wg e){x:Touch}(b:(MemAct.ofEvent e).touch? =some x):OfWg Wg x.loc∧x.kind≠.plain:=by
 rcases h with(h|rfl|rfl|rfl)|⟨a,wr,rfl,c⟩
 .obtain⟨d,wr,f⟩:=e
  simp only at h;subst h;simp[MemAct.ofEvent,MemAct.touch?]at b
 .simp[sZ,MemAct.ofEvent,MemAct.touch?]at b
 .simp[sZ,MemAct.ofEvent,MemAct.touch?]at b
 .simp[sZ,MemAct.ofEvent,MemAct.touch?]at b
  subst b;exact⟨⟨_,rfl,rfl⟩,by simp⟩
 .simp[MemAct.ofEvent,MemAct.touch?]at b
  subst b;exact⟨⟨_,rfl,c⟩,by simp⟩
theorem yB(h:JEv Wg e){B:Nat}(b:Wg<B):(MemAct.ofEvent e).low B:=by
 rcases h with(h|rfl|rfl|rfl)|⟨a,wr,rfl,d⟩
 .obtain⟨c,wr,f⟩:=e
  simp only at h;subst h;trivial
 .trivial
 .trivial
 .exact b
 .show a.block<B
  omega
theorem uo(h:JEv Wg e):e.loc≠.mark (.release (stA Wg)):=by
 rcases h with(h|rfl|rfl|rfl)|⟨a,wr,rfl,b⟩
 .rw[h];simp
 .simp[sZ]
 .simp[sZ]
 .simp[sZ]
 .simp
end
structure nS(Wg:Nat)(w w':World):Prop where
 size:w'.heap.size=w.heap.size
 block:∀b,b≠Wg->w'.heap[b]? =w.heap[b]?
 os:w'.os=w.os
 tape:w'.tape=w.tape
 output:w'.output=w.output
theorem nS.refl{Wg:Nat}(w:World):nS Wg w w:=⟨rfl,λ_ _=>rfl,rfl,rfl,rfl⟩
theorem nS.trans{Wg:Nat}{a b c:World}(h:nS Wg a b)(h':nS Wg b c):nS Wg a c:=
 ⟨h'.size.trans h.size,λx d=>(h'.block x d).trans (h.block x d),h'.os.trans h.os,h'.tape.trans h.tape,h'.output.trans h.output⟩
theorem nS.at_{Wg:Nat}(w:World)(d:Nat):nS Wg w (w.at d):=⟨rfl,λ_ _=>rfl,rfl,rfl,rfl⟩
theorem nS.setCell{Wg:Nat}(w:World)(a:Addr)(v:Value)(c:a.block=Wg):nS Wg w (w.setCell a v):=by
 have h:=aside_setCell w a v;exact⟨h.size,λb d=>h.block b (by rw[c];exact d),h.os,h.tape,h.output⟩
section
variable(P:Program)(Z:TypeId)(Wg:Nat)(Fin:Goroutine->Prop)
inductive JQ:Bool->Nat->Nat->Nat->Goroutine->Prop
 |ld {d n:Nat} {a:Goroutine}:MW P Z Wg (λd g=>d=1∧V8 P Z Wg Fin g) n d a->JQ false d 3 n a
 |cas {d n:Nat} {a:Goroutine}:MW P Z Wg (λd g=>d=1∧LY P Z Wg Fin g) n d a->JQ false d 2 n a
 |sem {d n:Nat} {a:Goroutine}:MW P Z Wg (λd g=>d=1∧Jd P Z Wg Fin g) n d a->JQ true d 1 n a
 |blk {g:Goroutine}:Jd P Z Wg Fin g->JQ true 1 0 0 { g with status:= .blocked }
inductive JB:Int->Nat->Nat->Nat->Goroutine->Prop
 |ld {d n:Nat} {a:Goroutine}:MW P Z Wg (λd g=>d=1∧V8 P Z Wg Fin g) n d a->JB 0 d 5 n a
 |cas {d n:Nat} {a:Goroutine}:MW P Z Wg (λd g=>d=1∧LY P Z Wg Fin g) n d a->JB 0 d 4 n a
 |sem {d n:Nat} {a:Goroutine}:MW P Z Wg (λd g=>d=1∧Jd P Z Wg Fin g) n d a->JB 1 d 3 n a
 |ld0 {d n:Nat} {a:Goroutine}:MW P Z Wg (λd g=>d=1∧Om P Z Wg Fin g) n d a->JB 0 d 2 n a
 |acq {d n:Nat} {a:Goroutine}:MW P Z Wg (λd g=>d=0∧AtAcq P Wg Fin g) n d a->JB 0 d 1 n a
end
section
variable{P:Program}{Z:TypeId}{Wg:Nat}{Fin:Goroutine->Prop}
theorem qK{Stop:Nat->Goroutine->Prop}{n d:Nat}{a:Goroutine}(h:MW P Z Wg Stop n d a):
 Stop d a∨∃m,n=m+1∧a.status= .running∧∀w,WgLive Z Wg w->∃g' es,stepG P true a w= .go g' w es∧(∀e∈es,MEv Wg e)∧MW P Z Wg Stop m (deafBehind d es) g':=by
 cases n with
 |zero=>exact .inl h
 |succ n=>exact h.imp id λx=>⟨n,rfl,x.1,x.2⟩
theorem kW{Stop:Nat->Goroutine->Prop}(b:∀d g,Stop d g->g.status= .running){n d:Nat}{a:Goroutine}(h:MW P Z Wg Stop n d a):a.status= .running:=by
 rcases qK h with h|⟨_,_,h,_⟩
 .exact b _ _ h
 .exact h
theorem JQ.status{reg:Bool}{d r n:Nat}{a:Goroutine}(h:JQ P Z Wg Fin reg d r n a):a.status= .running∨(a.status= .blocked∧reg=true):=by
 cases h with
 |ld h=>exact .inl (kW (λ_ _ x=>x.2.1) h)
 |cas h=>exact .inl (kW (λ_ _ x=>x.2.1) h)
 |sem h=>exact .inl (kW (λ_ _ x=>x.2.1) h)
 |blk h=>exact .inr ⟨rfl,rfl⟩
theorem JQ.awoken {reg : Bool} {d r n : Nat} {a b b' : Goroutine} {w : World} (h : JQ P Z Wg Fin reg d r n a) : ∃ r' n', JQ P Z Wg Fin reg d r' n' (Go.Conc.woken P b b' w a) := by
 rcases h.status with hr | ⟨hb, _⟩
 · exact ⟨r, n, by rw [woken_run hr]; exact h⟩
 · cases h with
   | ld h => rw [kW (fun _ _ x => x.2.1) h] at hb; cases hb
   | cas h => rw [kW (fun _ _ x => x.2.1) h] at hb; cases hb
   | sem h => rw [kW (fun _ _ x => x.2.1) h] at hb; cases hb
   | blk h =>
     unfold Go.Conc.woken
     split
     · exact ⟨1, 0, by rw [Go.ConcX.again_blocked h.1 h.2.1]; exact .sem (n := 0) (show _ ∧ _ from ⟨rfl, h⟩)⟩
     · exact ⟨0, 0, .blk h⟩
theorem JQ.up{d r n:Nat}{a b b':Goroutine}{w:World}(h:JQ P Z Wg Fin true d r n a)(c:mayWake P b=true)(f:b'.status= .running):∃g,JB P Z Wg Fin 1 d 3 g (Go.Conc.woken P b b' w a):=by
 have e:Go.Conc.woken P b b' w a=a.again w:=by unfold Go.Conc.woken;rw[c,f];rfl
 rw[e];cases h with
 |sem h=>exact⟨n,by rw[again_running _ (.inl (kW (λ_ _ x=>x.2.1) h))];exact .sem h⟩
 |blk h=>exact⟨0,by rw[Go.ConcX.again_blocked h.1 h.2.1];exact .sem (n:=0) (show _∧_ from⟨rfl,h⟩)⟩
theorem JQ.toB{d r n:Nat}{a:Goroutine}(h:JQ P Z Wg Fin false d r n a):∃b,JB P Z Wg Fin 0 d b n a:=by
 cases h with
 |ld h=>exact⟨_,.ld h⟩
 |cas h=>exact⟨_,.cas h⟩
theorem JQ.step{reg:Bool}{d r n:Nat}{a:Goroutine}(h:JQ P Z Wg Fin reg d r n a)(hr:a.status= .running){w:World}{st:Int}(c:WgAt Z Wg w st 0)(o:reg=false->st=KK):
 ∃s w' es,stepG P true a w= .go s w' es∧(∀e∈es,JEv Wg e)∧nS Wg w w'∧∃f k q l,WgAt Z Wg w' k 0∧((f=reg∧k=st)∨(reg=false∧f=true∧k=KK+1))∧JQ P Z Wg Fin f (deafBehind d es) q l s∧(q<r∨(q=r∧l<n)):=by
 cases h with
 |ld h=>
  obtain rfl:=o rfl;rcases qK h with⟨rfl,h1,g,_⟩|⟨m,rfl,_,g⟩
  .obtain⟨g',i,l,j⟩:=g w c
   exact⟨g',w,_,i,λe b=>by simp at b;subst b;exact Af,.refl w,false,KK,2,l,c,.inl ⟨rfl,rfl⟩,.cas j,.inl (by omega)⟩
  .obtain⟨g',es,i,j,p⟩:=g w ⟨_,_,c⟩
   exact⟨g',w,es,i,λe b=> .inl (j e b),.refl w,false,KK,3,m,c,.inl ⟨rfl,rfl⟩,.ld p,.inr ⟨rfl,by omega⟩⟩
 |cas h=>
  obtain rfl:=o rfl;rcases qK h with⟨rfl,h1,g,_⟩|⟨m,rfl,_,g⟩
  .obtain⟨g',i,l,j⟩:=g w c
   exact⟨g',_,_,i,λe b=>by simp at b;exact b.elim (λx=>x▸Af) (λx=>x▸KM),.setCell w _ _ rfl,true,KK+1,1,l,c.setSt _,.inr ⟨rfl,rfl,rfl⟩,.sem j,.inl (by omega)⟩
  .obtain⟨g',es,i,j,p⟩:=g w ⟨_,_,c⟩
   exact⟨g',w,es,i,λe b=> .inl (j e b),.refl w,false,KK,2,m,c,.inl ⟨rfl,rfl⟩,.cas p,.inr ⟨rfl,by omega⟩⟩
 |sem h=>
  rcases qK h with⟨rfl,h1⟩|⟨m,rfl,_,g⟩
  .exact⟨_,w,_,h1.2.2.1 w st c,λe b=>by simp at b,.refl w,true,st,0,0,c,.inl ⟨rfl,rfl⟩,.blk h1,.inl (by omega)⟩
  .obtain⟨g',es,i,j,p⟩:=g w ⟨_,_,c⟩
   exact⟨g',w,es,i,λe b=> .inl (j e b),.refl w,true,st,1,m,c,.inl ⟨rfl,rfl⟩,.sem p,.inr ⟨rfl,by omega⟩⟩
 |blk h=>cases hr
theorem JB.running{b:Int}{d r n:Nat}{a:Goroutine}(h:JB P Z Wg Fin b d r n a):a.status= .running:=by
 cases h with
 |ld h=>exact kW (λ_ _ x=>x.2.1) h
 |cas h=>exact kW (λ_ _ x=>x.2.1) h
 |sem h=>exact kW (λ_ _ x=>x.2.1) h
 |ld0 h=>exact kW (λ_ _ x=>x.2.1) h
 |acq h=>exact kW (λ_ _ x=>x.2.1) h
theorem JB.step{l:Int}{d r n:Nat}{a:Goroutine}(h:JB P Z Wg Fin l d r n a){w:World}(c:WgAt Z Wg w 0 l):
 (d=0∧∃o,stepG P true a w= .go o w #[sZ (.acquire (stA Wg))]∧Fin o∧l=0)∨
 ∃o w' es,stepG P true a w= .go o w' es∧(∀e∈es,JEv Wg e)∧nS Wg w w'∧∃g p f,WgAt Z Wg w' 0 g∧JB P Z Wg Fin g (deafBehind d es) p f o∧(p<r∨(p=r∧f<n)):=by
 have idle:∀{Stop:Nat->Goroutine->Prop} {m:Nat} {a:Goroutine} (l:Int) (r:Nat),WgAt Z Wg w 0 l->(∀w,WgLive Z Wg w->∃g' es,stepG P true a w= .go g' w es∧(∀e∈es,MEv Wg e)∧MW P Z Wg Stop m (deafBehind d es) g')->
  (∀{d n a},MW P Z Wg Stop n d a->JB P Z Wg Fin l d r n a)->
  ∃o w' es,stepG P true a w= .go o w' es∧(∀e∈es,JEv Wg e)∧nS Wg w w'∧∃g p f,WgAt Z Wg w' 0 g∧JB P Z Wg Fin g (deafBehind d es) p f o∧(p<r∨(p=r∧f<m+1)):=by
  intro Stop m a l r c b q;obtain⟨g',es,i,j,s⟩:=b w ⟨_,_,c⟩;exact⟨g',w,es,i,λe k=> .inl (j e k),.refl w,l,r,m,c,q s,.inr ⟨rfl,by omega⟩⟩
 cases h with
 |ld h=>
  right;rcases qK h with⟨rfl,h1,_,b⟩|⟨m,rfl,_,b⟩
  .obtain⟨g',i,f,j⟩:=b w c
   exact⟨g',w,_,i,λe k=>by simp at k;subst k;exact Af,.refl w,0,1,f,c,.acq j,.inl (by omega)⟩
  .exact idle 0 5 c b .ld
 |cas h=>
  right;rcases qK h with⟨rfl,h1,_,b⟩|⟨m,rfl,_,b⟩
  .obtain⟨g',i,f,j⟩:=b w c
   exact⟨g',w,_,i,λe k=>by simp at k;subst k;exact Af,.refl w,0,2,f,c,.ld0 j,.inl (by omega)⟩
  .exact idle 0 4 c b .cas
 |sem h=>
  right;rcases qK h with⟨rfl,h1⟩|⟨m,rfl,_,b⟩
  .obtain⟨g',i,f,j⟩:=h1.2.2.2 w c
   have e:deafBehind 1 (semEvents (smA Wg))=1:=rfl;exact⟨g',_,_,i,Pq,.setCell w _ _ rfl,0,2,f,c.setSm _,.ld0 (by rw[e];exact j),.inl (by omega)⟩
  .exact idle 1 3 c b .sem
 |ld0 h=>
  right;rcases qK h with⟨rfl,h1,b⟩|⟨m,rfl,_,b⟩
  .obtain⟨g',i,f,j⟩:=b w 0 c
   exact⟨g',w,_,i,λe k=>by simp at k;subst k;exact Af,.refl w,0,1,f,c,.acq j,.inl (by omega)⟩
  .exact idle 0 2 c b .ld0
 |acq h=>
  rcases qK h with⟨rfl,h1,b⟩|⟨m,rfl,_,b⟩
  .obtain⟨g',i,j⟩:=b w
   exact .inl ⟨rfl,g',i,j,rfl⟩
  .exact .inr (idle 0 1 c b .acq)
end
end
section
open Go.Conc
open Go.ConcX (WgAt wgBlock stA smA KK OfWg)
open Go.ConcN (sumTo sumTo_upd upd_same)
variable{sm st:Int}{w:World}
theorem tC{ty:TypeId}{Wg:Nat}(h:WgAt ty Wg w st sm):Wg<w.heap.size:=(aV.1 h).1
theorem Vo{e:Event}(h:e.mute=true)(a:Addr):e.loc≠.mark (.release a):=by
 obtain⟨c,wr,d⟩:=e;intro b;simp only at b;subst b;cases h
section
variable{P:Program}{X:TypeId}{Y j:Nat}{Fin:Goroutine->Prop}{Z:Loc->Prop}
def Joined(P:Program)(X:TypeId)(Y:Nat)(Fin:Goroutine->Prop)(Z:Loc->Prop)(N:Nat)(w0:World):Array Goroutine->World->Option (Nat×Nat)->Trace->Prop:=λb w _ t=>
 ∃a q,b.size=N∧b[0]? =some a∧Fin a∧Leavers P t b q∧mW (λl=>Z l∨OfWg Y l) w.heap.size 0 t∧nS Y w0 w∧WgAt X Y w 0 0
theorem NI(hj:j≠0)(E:∀l,Z l->¬OfWg Y l)(W N0:Nat)(w0:World):∀(r N n:Nat) (o:Array Goroutine) (w:World) (sl:Option (Nat×Nat)) (t:Trace) (q:Nat->Nat) (a:Goroutine) (O F:Nat) (A:Int),
 n+sumTo o.size q<=N->o.size=N0->nS Y w0 w->JB P X Y Fin A O r n a->o[0]? =some a->Leavers P t o q->WgAt X Y w 0 A->Jo Z Y j w.heap.size O F (some W) t->
 Reaches P o w sl t (Joined P X Y Fin Z N0 w0):=by
 intro r;induction r using Nat.strongRecOn with
 |ind r S=>
  intro N;induction N using Nat.strongRecOn with
  |ind N v=>
   intro n o w sl t q a O F A hN c hR B h0 G hw C;obtain⟨i,g,u,sl',hi,hg,y⟩:=crowd_pick (P:=P) (w:=w) (sl:=sl) (Eh G h0 B.running) ⟨0,a,h0,B.running⟩;have h:WgAt X Y (w.at u) 0 A:=hw;have p:nS Y w0 (w.at u):=hR.trans (.at_ w u)
   replace C:Jo Z Y j (w.at u).heap.size O F (some W) t:=C
   have z:0<o.size:=(aV.1 h0).1;rcases jw i with rfl|H
   .obtain rfl:g=a:=by rw[h0]at hi;exact(aN hi).symm
    rcases B.step h with⟨rfl,D,h1,I,rfl⟩|⟨D,w',es,h1,I,T,J,r',U,V,h5,Q⟩
    .have b:=runT_crowd_go (P:=P) (sl:=sl') (i:=0) hi (show stepG P (0==0) g (w.at u)=_ from h1)
     exact Reaches.step (by rw[y];exact b) (.here ⟨D,q,by simpa using c,by simp[z],I,uS G h0,C.acquire rfl hj (tC h),p,h⟩)
    .have b:=runT_crowd_go (P:=P) (sl:=sl') (i:=0) hi (show stepG P (0==0) g (w.at u)=_ from h1)
     have f:((o.map (woken P g D w')).setIfInBounds 0 D).size=o.size:=by simp
     have m:=C.main (fn:=g.frame.fn) (pos:=g.frame.place) (B':=w'.heap.size) hj (by rw[T.size];exact aj _) E (λe s x hx=>Ia (I e s) hx) (λe s=>uo (I e s)) (λe s=>yB (I e s) (tC V));refine Reaches.step (by rw[y];exact b) ?_;rcases Q with Q|⟨rfl,Q⟩
     .exact S r' Q _ U _ w' sl' _ q D _ F J (aj _) (f.trans c) (p.trans T) h5 (by simp[z]) (uS G h0) V m
     .exact v (U+sumTo o.size q) (by omega) U _ w' sl' _ q D _ F J (by rw[f];exact aj _) (f.trans c) (p.trans T) h5 (by simp[z]) (uS G h0) V m
   .obtain⟨k,g1,es1,hqi,b,R,f,K,L,hlt'⟩:=BD (w:=w) (sl':=sl') (d:=u) G h0 B.running H hi hg
    refine Reaches.step (by rw[y];exact b) ?_;by_cases M:i=j
    .subst M
     have m:=C.tail (fn:=g.frame.fn) (pos:=g.frame.place) hj E (tC h) (λk e s=> .inl (touch_mute (R e (Array.mem_of_getElem? s)))) (λe s=>Vo (R e s) _) (λe s=>low_mute (R e s) _);exact v (n+sumTo o.size (ConcN.upd q i k)) (by omega) n _ (w.at u) sl' _ (ConcN.upd q i k) a _ _ A (by rw[f];exact aj _) (f.trans c) p B K L h m
    .have m:=C.leaver (g:=i) (fn:=g.frame.fn) (pos:=g.frame.place) (by omega) M R
     exact v (n+sumTo o.size (ConcN.upd q i k)) (by omega) n _ (w.at u) sl' _ (ConcN.upd q i k) a _ _ A (by rw[f];exact aj _) (f.trans c) p B K L h m
end
end
section
open Go.Conc
open Go.ConcX (WgAt wgBlock stA smA KK OfWg)
open Go.ConcN (sumTo sumTo_upd upd_same)
variable{fn:FuncId}{pos:String}
structure Gu(P:Program)(j:Nat)(t:Trace)(gs:Array Goroutine)(q:Nat->Nat):Prop where
 old:∀i g,0<i->i≠j->gs[i]? =some g->QuitsD P (q i) (Deaf t i) g
 above:∀i,gs.size<=i->Deaf t i=0
structure PA(P:Program)(ty:TypeId)(Wg j:Nat)(Fin:Goroutine->Prop)(Shun:Loc->Prop)(reg:Bool)(st:Int)(d0 d1 r n:Nat)(rel:Option Nat)(gs:Array Goroutine)(w:World)(t:Trace)(a b:Goroutine)(q:Nat->Nat):Prop where
 h0:gs[0]? =some a
 hj:gs[j]? =some b
 jq:JQ P ty Wg Fin reg d0 r n a
 yO:WgAt ty Wg w st 0
 st0:reg=false->st=KK
 run:b.status= .running
 lv:Gu P j t gs q
 tr:Jo Shun Wg j w.heap.size d0 d1 rel t
section
variable{P:Program}{R:TypeId}{V j:Nat}{Fin:Goroutine->Prop}{Y:Loc->Prop}{X:Bool}{U:Int}{T Q r n:Nat}{W:Option Nat}{Z:Array Goroutine}{w:World}{O:Option (Nat×Nat)}{t:Trace}{a b:Goroutine}{q:Nat->Nat}
theorem Ie{i m:Nat}{g g' x:Goroutine}{w':World}(c:i≠m)(h:Z[m]? =some x):((Z.map (woken P g g' w')).setIfInBounds i g')[m]? =some (woken P g g' w' x):=by
 rw[bW c,jy,h];rfl
theorem Dz{i:Nat}{g g':Goroutine}{w':World}{x:Goroutine}(h:Z[i]? =some x):((Z.map (woken P g g' w')).setIfInBounds i g')[i]? =some g':=by
 have c:i<Z.size:=(aV.1 h).1;rw[kN (by simpa using c)]
theorem jR{i:Nat}{g g':Goroutine}{w':World}:((Z.map (woken P g g' w')).setIfInBounds i g').size=Z.size:=by simp
theorem Ai{g:Nat}{es:Array Event}:∀op∈MemOp.ofEvents g fn pos es,op.g=g:=λop c=>by obtain⟨e,_,rfl⟩:=Go.Conc.mem_ofEvents c;rfl
theorem Gu.own(d:Gu P j t Z q){i:Nat}(hi:i=0∨i=j){g g' x:Goroutine}{w':World}{fn:FuncId}{pos:String}{es:Array Event}(k:Z[i]? =some x):Gu P j (t++MemOp.ofEvents i fn pos es) ((Z.map (woken P g g' w')).setIfInBounds i g') q:=by
 refine⟨λm y h1 l e=>?_,λm f=>?_⟩
 .have c:i≠m:=by rcases hi with rfl|rfl<;>omega
  rw[bW c,jy]at e;obtain⟨z,o,rfl⟩:=aP.1 e;have h:=d.old m z h1 l o;rw[woken_quitsD h,Deaf_other t (g':=i) c _ Ai];exact h
 .have p:i<Z.size:=(aV.1 k).1
  rw[jR]at f;rw[Deaf_other t (g':=i) (by omega) _ Ai];exact d.above m f
theorem Gu.step(A:Gu P j t Z q){sl':Option (Nat×Nat)}{i d:Nat}{g:Goroutine}(l:0<i)(B:i≠j)(hi:Z[i]? =some g)(u:g.status= .running):
 ∃k g' es,runT P (crowd Z (w.at d) sl') i=(.next (crowd ((Z.map (woken P g g' (w.at d))).setIfInBounds i g') (w.at d) sl'),MemOp.ofEvents i g.frame.fn g.frame.place es)∧(∀e∈es,e.mute=true)∧
  Gu P j (t++MemOp.ofEvents i g.frame.fn g.frame.place es) ((Z.map (woken P g g' (w.at d))).setIfInBounds i g') (ConcN.upd q i k)∧sumTo Z.size (ConcN.upd q i k)<sumTo Z.size q:=by
 have v:=A.old i g l B hi;have C:(i==0)=false:=by simp;omega
 have D:i<Z.size:=(aV.1 hi).1;cases f:q i with
 |zero=>rw[f]at v;rw[v.1]at u;cases u
 |succ k=>
  rw[f]at v;rcases v with⟨G,_⟩|⟨_,g',es,H,o,E⟩
  .rw[G]at u;cases u
  have h:=runT_crowd_go (P:=P) (sl:=sl') (i:=i) hi (by rw[C];exact o (w.at d));have F:sumTo Z.size (ConcN.upd q i k)+(k+1)=sumTo Z.size q+k:=by
   have:=sumTo_upd q k id D;simpa[f]using this
  refine⟨k,g',es,h,H,⟨λm x h1 I z=>?_,λm p=>?_⟩,by omega⟩
  .by_cases c:i=m
   .subst c
    rw[Dz hi]at z;obtain rfl:=aN z;rw[upd_same,Deaf_own];exact E
   .rw[bW c,jy]at z
    obtain⟨y,J,rfl⟩:=aP.1 z;have s:=A.old m y h1 I J;rw[woken_quitsD s,ConcN.upd_ne q k (Ne.symm c),Deaf_other t (g':=i) c _ Ai];exact s
  .rw[jR]at p
   rw[Deaf_other t (g':=i) (by omega) _ Ai];exact A.above m p
theorem PA.awake(h:PA P R V j Fin Y X U T Q r n W Z w t a b q):∀g∈Z,Go.Conc.awake g:=by
 intro g f;obtain⟨i,hi,rfl⟩:=Array.mem_iff_getElem.1 f;rcases jw i with rfl|c
 .have:Z[0]=a:=by simpa[dI hi]using h.h0
  rw[this];intro t e;rcases h.jq.status with x|⟨x,_⟩<;>rw[x]at e<;>cases e
 .by_cases d:i=j
  .subst d
   have:Z[i]=b:=by simpa[dI hi]using h.hj
   rw[this];exact awake_of (.inl h.run)
  .exact awake_of ((h.lv.old i _ c d (dI hi)).status.elim .inl λx=> .inr (.inr x))
def ae9(P:Program)(R:TypeId)(V j:Nat)(Fin:Goroutine->Prop)(Y:Loc->Prop)(N0:Nat)(w0:World)(X:Bool)(U:Int)(Q:Nat)(W:Option Nat)(b:Goroutine):Array Goroutine->World->Option (Nat×Nat)->Trace->Prop:=λZ w O t=>
 ∃f sl' c d e g h i q',Z.size=N0∧Go.stepT P (crowd Z w O)=runT P (crowd Z (w.at f) sl') j∧nS V w0 w∧((c=X∧d=U)∨(X=false∧c=true∧d=KK+1))∧PA P R V j Fin Y c d e Q g h W Z w t i b q'
theorem Qy(B:j≠0)(M:∀l,Y l->¬OfWg V l)(N0:Nat)(w0:World)(c:Bool)(st0:Int)(hst0:c=false->st0=KK):∀(S r n:Nat) (Z:Array Goroutine) (w:World) (O:Option (Nat×Nat)) (t:Trace) (q:Nat->Nat) (a:Goroutine) (T:Nat) (X:Bool) (U:Int),
 sumTo Z.size q=S->Z.size=N0->nS V w0 w->((X=c∧U=st0)∨(c=false∧X=true∧U=KK+1))->PA P R V j Fin Y X U T Q r n W Z w t a b q->
 Reaches P Z w O t (ae9 P R V j Fin Y N0 w0 c st0 Q W b):=by
 intro S;induction S using Nat.strongRecOn with
 |ind S N=>
 intro r;induction r using Nat.strongRecOn with
 |ind r ihr=>
 intro n;induction n using Nat.strongRecOn with
 |ind n ihn=>
 intro Z w O t q a T X U hS K hR p h;obtain⟨i,g,s,sl',hi,hg,y⟩:=crowd_pick (P:=P) (w:=w) (sl:=O) h.awake ⟨j,b,h.hj,h.run⟩;by_cases u:i=j
 .subst u
  exact .here ⟨s,sl',X,U,T,r,n,a,q,K,y,hR,p,h⟩
 have C:WgAt R V (w.at s) U 0:=h.yO;have z:nS V w0 (w.at s):=hR.trans (.at_ w s);have hP:Jo Y V j (w.at s).heap.size T Q W t:=h.tr;rcases jw i with rfl|D
 .obtain rfl:g=a:=by rw[h.h0]at hi;exact(aN hi).symm
  obtain⟨E,w',es,h1,h2,h3,f,o,L,F,h4,h5,h6,G⟩:=h.jq.step hg C h.st0;have m:=runT_crowd_go (P:=P) (sl:=sl') (i:=0) hi (show stepG P (0==0) g (w.at s)=_ from h1);have A:=hP.main (fn:=g.frame.fn) (pos:=g.frame.place) (B':=w'.heap.size) B (by rw[h3.size];exact aj _) M (λe H x hx=>Ia (h2 e H) hx) (λe H=>uo (h2 e H)) (λe H=>yB (h2 e H) (tC h4));have v:(f=c∧o=st0)∨(c=false∧f=true∧o=KK+1):=by
   rcases h5 with⟨rfl,rfl⟩|⟨e1,e2,e3⟩
   .exact p
   .rcases p with⟨rfl,rfl⟩|⟨e4,e5,e6⟩
    .exact .inr ⟨e1,e2,e3⟩
    .rw[e1]at e5;cases e5
  have I:PA P R V j Fin Y f o (deafBehind T es) Q L F W ((Z.map (woken P g E w')).setIfInBounds 0 E) w' (t++MemOp.ofEvents 0 g.frame.fn g.frame.place es) E b q:=
   ⟨Dz hi,by rw[Ie (Ne.symm B) h.hj,woken_run h.run],h6,h4,λe=>(by
    rcases h5 with⟨rfl,rfl⟩|⟨e1,e2,e3⟩
    .exact h.st0 e
    .rw[e2]at e;cases e),h.run,h.lv.own (.inl rfl) hi,A⟩
  refine Reaches.step (by rw[y];exact m) ?_;rcases G with G|⟨rfl,G⟩
  .exact ihr L G F _ w' sl' _ q E _ f o (by rw[jR];exact hS) (jR.trans K) (z.trans h3) v I
  .exact ihn F G _ w' sl' _ q E _ f o (by rw[jR];exact hS) (jR.trans K) (z.trans h3) v I
 .obtain⟨k,g1,es1,m,hm,hL',J⟩:=h.lv.step (w:=w) (sl':=sl') (d:=s) D u hi hg
  have A:=hP.leaver (g:=i) (fn:=g.frame.fn) (pos:=g.frame.place) (by omega) u hm;obtain⟨L,F,hjq⟩:=h.jq.awoken (b:=g) (b':=g1) (w:=w.at s);refine Reaches.step (by rw[y];exact m) ?_;exact N _ (by rw[← hS];exact J) L F _ (w.at s) sl' _ (ConcN.upd q i k) _ T X U (by rw[jR]) (jR.trans K) z p
   ⟨Ie (by omega) h.h0,by rw[Ie u h.hj,woken_run h.run],hjq,C,h.st0,h.run,hL',A⟩
theorem PA.work(h:PA P R V j Fin Y X U T Q r n W Z w t a b q)(d:j≠0){b':Goroutine}{w2:World}{es:Array Event}(c:b'.status= .running){st2:Int}(k:WgAt R V w2 st2 0)(e:X=false->st2=KK){rel':Option Nat}
 (l:Jo Y V j w2.heap.size T (deafBehind Q es) rel' (t++MemOp.ofEvents j b.frame.fn b.frame.place es)):
 ∃f g,PA P R V j Fin Y X st2 T (deafBehind Q es) f g rel' ((Z.map (woken P b b' w2)).setIfInBounds j b') w2 (t++MemOp.ofEvents j b.frame.fn b.frame.place es) (woken P b b' w2 a) b' q:=by
 obtain⟨f,g,i⟩:=h.jq.awoken (b:=b) (b':=b') (w:=w2);exact⟨f,g,Ie d h.h0,Dz h.hj,i,k,e,c,h.lv.own (.inr rfl) h.hj,l⟩
theorem Gu.adJ(e:j≠0)(h:Gu P j t Z q){b:Goroutine}(f:Z[j]? =some b){k:Nat}(l:QuitsD P k (Deaf t j) b):Leavers P t Z (ConcN.upd q j k):=by
 refine⟨λi g h1 d=>?_,h.above⟩;by_cases c:i=j
 .subst c
  rw[f]at d;cases d;rw[upd_same];exact l
 .rw[ConcN.upd_ne q k c]
  exact h.old i g h1 c d
end
end
section
open Go.Conc
open Go.ConcX (WgAt wgBlock stA smA KK OfWg RCa RCd DC0 KCa Full Payload Shy DCs EvQ)
open Go.ConcN (sumTo sumTo_upd upd_same)
section
variable{P:Program}{ty:TypeId}{Z j:Nat}{Fin:Goroutine->Prop}{Y:Loc->Prop}{X:Bool}{S:Int}{V Q r n:Nat}{R:Option Nat}{W:Array Goroutine}{w:World}{U:Option (Nat×Nat)}{t:Trace}{a b:Goroutine}{q:Nat->Nat}
theorem PA.at_(h:PA P ty Z j Fin Y X S V Q r n R W w t a b q)(d:Nat):PA P ty Z j Fin Y X S V Q r n R W (w.at d) t a b q:=⟨h.h0,h.hj,h.jq,h.yO,h.st0,h.run,h.lv,h.tr⟩
theorem lQ{T:Array Goroutine->World->Option (Nat×Nat)->Trace->Prop}(hj0:j≠0)(hSW:∀l,Y l->¬OfWg Z l)(h:PA P ty Z j Fin Y X S V Q r n R W w t a b q)
 (K:∀d w1 g t1 c st1 e r1 m o p,d.size=W.size->nS Z w w1->((c=X∧st1=S)∨(X=false∧c=true∧st1=KK+1))->PA P ty Z j Fin Y c st1 e Q r1 m R d w1 t1 o b p->
  ∃b' w2 es,stepG P false b w1= .go b' w2 es∧Reaches P ((d.map (woken P b b' w2)).setIfInBounds j b') w2 g (t1++MemOp.ofEvents j b.frame.fn b.frame.place es) T):
 Reaches P W w U t T:=by
 refine Reaches.then (Qy hj0 hSW W.size w X S h.st0 _ r n W w U t q a V X S rfl rfl (.refl w) (.inl ⟨rfl,rfl⟩) h) ?_
 rintro d w1 g t1 ⟨s,sl',c,st1,e,r1,m,o,p,y,u,z,v,k⟩
 obtain⟨b',w2,es,h1,A⟩:=K d (w1.at s) sl' t1 c st1 e r1 m o p y (z.trans (.at_ w1 s)) v (k.at_ s);have x:(j==0)=false:=by simp;exact hj0
 have f:=runT_crowd_go (P:=P) (sl:=sl') (i:=j) k.hj (by rw[x];exact h1);exact Reaches.step (by rw[u];exact f) A
theorem acE(t:Trace)(g:Nat)(fn:FuncId)(pos:String):t++MemOp.ofEvents g fn pos #[]=t:=by rw[ofEvents_none];simp
theorem PA.idle(h:PA P ty Z j Fin Y X S V Q r n R W w t a b q)(hj0:j≠0){b':Goroutine}(c:b'.status= .running):
 ∃d f,PA P ty Z j Fin Y X S V Q d f R ((W.map (woken P b b' w)).setIfInBounds j b') w (t++MemOp.ofEvents j b.frame.fn b.frame.place #[]) (woken P b b' w a) b' q:=by
 have e:deafBehind Q #[]=Q:=rfl;have:=h.work (es:=#[]) (w2:=w) (rel':=R) hj0 c h.yO h.st0 (by rw[e,acE];exact h.tr);rw[e]at this;exact this
theorem tY{w':World}(d:nS Z w w'){S:Int}(h:WgAt ty Z w S 0)(h':WgAt ty Z w' S 0)(x:Nat):w'.heap[x]? =w.heap[x]? :=by
 by_cases c:x=Z
 .subst c;exact(show w'.heap[x]? =some _ from h').trans (show w.heap[x]? =some _ from h).symm
 .exact d.block x c
theorem En(e:X=true->S=KK+1){c:Bool}{st1:Int}(d:(c=X∧st1=S)∨(X=false∧c=true∧st1=KK+1)):c=true->st1=KK+1:=by
 rcases d with⟨rfl,rfl⟩|⟨_,_,rfl⟩
 .exact e
 .exact λ_=>rfl
theorem Hf(c:X=true->S=KK+1)(h:PA P ty Z j Fin Y X S V Q r n R W w t a b q){w1:World}{Low:Nat}(d:nS Z w1 w):RCa ty Z Low w1 w:=
 ⟨λx _ e=>d.block x e,λ_=>by
  cases hr:X with
  |false=>left;rw[← h.st0 hr];exact h.yO
  |true=>right;rw[← c hr];exact h.yO⟩
section
variable(T:j≠0)(O:∀l,Y l->¬OfWg Z l)(L:Nat)(M:World)(N K:Nat)
include T O
theorem st6:∀(m:Nat) (W:Array Goroutine) (w:World) (U:Option (Nat×Nat)) (t:Trace) (q:Nat->Nat) (a b:Goroutine) (V r n:Nat),W.size=L->nS Z M w->Goes P false (RCd N) DC0 (Go.ConcX.AtD4 P Z) m b w->
 PA P ty Z j Fin Y true 0 V 1 r n (some K) W w t a b q->Reaches P W w U t (Joined P ty Z Fin Y L M):=by
 intro m;induction m with
 |zero=>exact λW w U t q a b V r n y z A h=>fin W w U t q a b V r n y z A h
 |succ m ih=>
  intro W w U t q a b V r n y z A h;rcases Goes.cases A with C|⟨m',hm,C⟩
  .exact fin W w U t q a b V r n y z C h
  .cases hm
   refine lQ T O h λD w1 o t1 d st1 p r1 n1 a1 E s f u c=>?_;obtain⟨rfl,rfl⟩:d=true∧st1=0:=u.elim id λx=>by cases x.1
   obtain⟨b',w2,es,h1,⟨rfl,rfl⟩,h2⟩:=C w1 λx _=>tY f h.yO c.yO x;have B:b'.status= .running:=Goes.running (λ_ _ x=>x.1) w2 (RCd.refl w2) h2;obtain⟨r2,n2,h3⟩:=c.idle T B;exact⟨b',w2,#[],h1,ih _ w2 o _ E _ b' p r2 n2 (jR.trans (s.trans y)) (z.trans f) h2 h3⟩
where
 fin (W:Array Goroutine) (w:World) (U:Option (Nat×Nat)) (t:Trace) (q:Nat->Nat) (a b:Goroutine) (V r n:Nat) (y:W.size=L) (z:nS Z M w) (A:∀i,RCd N w i->Go.ConcX.AtD4 P Z b i)
  (h:PA P ty Z j Fin Y true 0 V 1 r n (some K) W w t a b q):Reaches P W w U t (Joined P ty Z Fin Y L M):=by
  refine lQ T O h λD w1 o t1 d st1 p r1 n1 a1 E s f u c=>?_;obtain⟨rfl,rfl⟩:d=true∧st1=0:=u.elim id λx=>by cases x.1
  obtain⟨_,F,b',h1,k,G⟩:=A w1 λx _=>tY f h.yO c.yO x;have H:b'.status= .running:=by
   cases k with
   |zero=>exact aX G.2 (by decide)
   |succ k=>exact G.elim (λx=>aX x.2 (by decide)) (λx=>x.1)
  have e1:deafBehind 1 (semEvents (smA Z))=1:=rfl;have I:(w1.setCell (smA Z) (.int .u32 1)).heap.size=w1.heap.size:=(nS.setCell (Wg:=Z) w1 (smA Z) (.int .u32 1) rfl).size;have v:=c.tr.tail (fn:=b.frame.fn) (pos:=b.frame.place) (es:=semEvents (smA Z)) T O (tC c.yO) (λk e J=>by
   have:k=0∨k=1∨k=2∨k=3:=by have:=(aV.1 J).1;simp[semEvents]at this;omega
   rcases this with rfl|rfl|rfl|rfl<;>(simp[semEvents]at J;subst J)
   .exact .inl rfl
   .exact .inr ⟨⟨1,false,rfl⟩,by simp[deafBehind,semEvents,vY,Ed]⟩
   .exact .inr ⟨⟨1,true,rfl⟩,by simp[deafBehind,semEvents,vY,Ed]⟩
   .exact .inl rfl) (λe he=>uo (Pq e he)) (λe he=>yB (Pq e he) (tC c.yO))
  rw[e1]at v;obtain⟨n',hjb⟩:=c.jq.up (w:=w1.setCell (smA Z) (.int .u32 1)) F H;have hL:=(c.lv.own (g:=b) (g':=b') (w':=w1.setCell (smA Z) (.int .u32 1)) (fn:=b.frame.fn) (pos:=b.frame.place) (es:=semEvents (smA Z)) (.inr rfl) c.hj).adJ T (Dz c.hj) (k:=k) (by rw[v.deaf1];exact G);exact⟨b',_,_,h1,NI T O K L M 3 _ n' _ _ o _ (ConcN.upd E j k) _ p 1 1 (aj _) (jR.trans (s.trans y)) ((z.trans f).trans (.setCell w1 (smA Z) _ rfl)) hjb (Ie T c.h0) hL (Go.ConcX.WgAt.setSm c.yO 1) (by rw[I];exact v)⟩
theorem st5:∀(m:Nat) (W:Array Goroutine) (w:World) (U:Option (Nat×Nat)) (t:Trace) (q:Nat->Nat) (a b:Goroutine) (V r n:Nat),W.size=L->nS Z M w->Goes P false (RCd N) DC0 (Go.ConcX.AtD3 P Z N) m b w->
 PA P ty Z j Fin Y true 1 V 1 r n (some K) W w t a b q->Reaches P W w U t (Joined P ty Z Fin Y L M):=by
 intro m;induction m with
 |zero=>exact λW w U t q a b V r n v y z h=>fin W w U t q a b V r n v y z h
 |succ m ih=>
  intro W w U t q a b V r n v y z h;rcases Goes.cases z with D|⟨m',hm,D⟩
  .exact fin W w U t q a b V r n v y D h
  .cases hm
   refine lQ T O h λE w1 o t1 d st1 p r1 n1 a1 F s f u c=>?_;obtain⟨rfl,rfl⟩:d=true∧st1=1:=u.elim id λx=>by cases x.1
   obtain⟨b',w2,es,h1,⟨rfl,rfl⟩,A⟩:=D w1 λx _=>tY f h.yO c.yO x;have g:b'.status= .running:=Goes.running (λ_ _ x=>x.1) w2 (RCd.refl w2) A;obtain⟨r2,G,C⟩:=c.idle T g;exact⟨b',w2,#[],h1,ih _ w2 o _ F _ b' p r2 G (jR.trans (s.trans v)) (y.trans f) A C⟩
where
 fin (W:Array Goroutine) (w:World) (U:Option (Nat×Nat)) (t:Trace) (q:Nat->Nat) (a b:Goroutine) (V r n:Nat) (v:W.size=L) (y:nS Z M w) (z:∀i,RCd N w i->Go.ConcX.AtD3 P Z N b i)
  (h:PA P ty Z j Fin Y true 1 V 1 r n (some K) W w t a b q):Reaches P W w U t (Joined P ty Z Fin Y L M):=by
  refine lQ T O h λE w1 o t1 d st1 p r1 n1 a1 F s f u c=>?_;obtain⟨rfl,rfl⟩:d=true∧st1=1:=u.elim id λx=>by cases x.1
  obtain⟨_,b',h1,m,A⟩:=z w1 λx _=>tY f h.yO c.yO x;have g:b'.status= .running:=Goes.running (λ_ _ x=>x.1) _ (RCd.refl _) A;have e1:deafBehind 1 #[Ed (stA Z)]=1:=rfl;have H:(w1.setCell (stA Z) (.int .u64 0)).heap.size=w1.heap.size:=(nS.setCell (Wg:=Z) w1 (stA Z) (.int .u64 0) rfl).size;have I:=c.tr.tail (fn:=b.frame.fn) (pos:=b.frame.place) (es:=#[Ed (stA Z)]) T O (tC c.yO) (λk e J=>by
   have:k=0:=by have:=(aV.1 J).1;simp at this;omega
   subst this;simp at J;subst J;exact .inr ⟨⟨0,true,rfl⟩,by simp[deafBehind,semEvents,vY,Ed]⟩) (λe B=>by simp at B;subst B;exact uo KM) (λe B=>by simp at B;subst B;exact yB KM (tC c.yO))
  obtain⟨r2,G,C⟩:=c.work (es:=#[Ed (stA Z)]) (rel':=some K) T g (Go.ConcX.WgAt.setSt c.yO 0) (λe=>by cases e) (by rw[H];exact I);rw[e1]at C;exact⟨b',_,_,h1,st6 (Fin:=Fin) (ty:=ty) T O L M N K m _ _ o _ F _ b' p r2 G (jR.trans (s.trans v)) ((y.trans f).trans (.setCell w1 (stA Z) _ rfl)) A C⟩
theorem st4:∀(m:Nat) (W:Array Goroutine) (w:World) (U:Option (Nat×Nat)) (t:Trace) (q:Nat->Nat) (a b:Goroutine) (V r n:Nat),W.size=L->nS Z M w->Goes P false (RCd N) DC0 (Go.ConcX.AtD2 P Z N) m b w->
 PA P ty Z j Fin Y true 1 V 1 r n (some K) W w t a b q->Reaches P W w U t (Joined P ty Z Fin Y L M):=by
 intro m;induction m with
 |zero=>exact λW w U t q a b V r n v y z h=>fin W w U t q a b V r n v y z h
 |succ m J=>
  intro W w U t q a b V r n v y z h;rcases Goes.cases z with D|⟨m',hm,D⟩
  .exact fin W w U t q a b V r n v y D h
  .cases hm
   refine lQ T O h λE w1 o t1 d st1 p r1 n1 a1 F s f u c=>?_;obtain⟨rfl,rfl⟩:d=true∧st1=1:=u.elim id λx=>by cases x.1
   obtain⟨b',w2,es,h1,⟨rfl,rfl⟩,A⟩:=D w1 λx _=>tY f h.yO c.yO x;have g:b'.status= .running:=Goes.running (λ_ _ x=>x.1) w2 (RCd.refl w2) A;obtain⟨r2,G,C⟩:=c.idle T g;exact⟨b',w2,#[],h1,J _ w2 o _ F _ b' p r2 G (jR.trans (s.trans v)) (y.trans f) A C⟩
where
 fin (W:Array Goroutine) (w:World) (U:Option (Nat×Nat)) (t:Trace) (q:Nat->Nat) (a b:Goroutine) (V r n:Nat) (v:W.size=L) (y:nS Z M w) (z:∀i,RCd N w i->Go.ConcX.AtD2 P Z N b i)
  (h:PA P ty Z j Fin Y true 1 V 1 r n (some K) W w t a b q):Reaches P W w U t (Joined P ty Z Fin Y L M):=by
  refine lQ T O h λE w1 o t1 d st1 p r1 n1 a1 F s f u c=>?_;obtain⟨rfl,rfl⟩:d=true∧st1=1:=u.elim id λx=>by cases x.1
  obtain⟨_,b',h1,m,A⟩:=z w1 λx _=>tY f h.yO c.yO x;have g:b'.status= .running:=Goes.running (λ_ _ x=>x.1) _ (RCd.refl _) A;have e1:deafBehind 1 #[vY (stA Z)]=1:=rfl;have H:=c.tr.tail (fn:=b.frame.fn) (pos:=b.frame.place) (es:=#[vY (stA Z)]) T O (tC c.yO) (λk e I=>by
   have:k=0:=by have:=(aV.1 I).1;simp at this;omega
   subst this;simp at I;subst I;exact .inr ⟨⟨0,false,rfl⟩,by simp[deafBehind,semEvents,vY,Ed]⟩) (λe B=>by simp at B;subst B;exact uo Af) (λe B=>by simp at B;subst B;exact yB Af (tC c.yO))
  obtain⟨r2,G,C⟩:=c.work (es:=#[vY (stA Z)]) (w2:=w1) (rel':=some K) T g c.yO (λe=>by cases e) H;rw[e1]at C;exact⟨b',_,_,h1,st5 (Fin:=Fin) (ty:=ty) T O L M N K m _ _ o _ F _ b' p r2 G (jR.trans (s.trans v)) (y.trans f) A C⟩
theorem st3:∀(m:Nat) (W:Array Goroutine) (w:World) (U:Option (Nat×Nat)) (t:Trace) (q:Nat->Nat) (a b:Goroutine) (X:Bool) (S:Int) (V r n:Nat),W.size=L->nS Z M w->(X=true->S=KK+1)->Goes P false (RCa ty Z N) DC0 (Go.ConcX.AtD1 P ty Z N) m b w->
 PA P ty Z j Fin Y X S V 1 r n (some K) W w t a b q->Reaches P W w U t (Joined P ty Z Fin Y L M):=by
 intro m;induction m with
 |zero=>exact λW w U t q a b X S V r n B C p E h=>fin W w U t q a b X S V r n B C p E h
 |succ m ih=>
  intro W w U t q a b X S V r n B C p E h;rcases Goes.cases E with hs|⟨m',hm,hs⟩
  .exact fin W w U t q a b X S V r n B C p hs h
  .cases hm
   refine lQ T O h λgs1 w1 s t1 f st1 u r1 n1 J q1 y d D c=>?_;have i:=En p D;obtain⟨b',w2,es,h1,⟨rfl,rfl⟩,F⟩:=hs w1 (Hf i c d);have o:b'.status= .running:=Goes.running (λ_ _ x=>x.1) w2 (Go.ConcX.RCa.refl w2) F;obtain⟨r2,n2,h3⟩:=c.idle T o;exact⟨b',w2,#[],h1,ih _ w2 s _ q1 _ b' f st1 u r2 n2 (jR.trans (y.trans B)) (C.trans d) i F h3⟩
where
 fin (W:Array Goroutine) (w:World) (U:Option (Nat×Nat)) (t:Trace) (q:Nat->Nat) (a b:Goroutine) (X:Bool) (S:Int) (V r n:Nat) (B:W.size=L) (C:nS Z M w) (p:X=true->S=KK+1) (E:∀A,RCa ty Z N w A->Go.ConcX.AtD1 P ty Z N b A)
  (h:PA P ty Z j Fin Y X S V 1 r n (some K) W w t a b q):Reaches P W w U t (Joined P ty Z Fin Y L M):=by
  refine lQ T O h λgs1 w1 s t1 f st1 u r1 n1 J q1 y d D c=>?_;have i:=En p D;obtain⟨_,hA,hB⟩:=E w1 (Hf i c d);have e1:deafBehind 1 #[vY (stA Z),Ed (stA Z)]=1:=rfl;have G:∀v,(w1.setCell (stA Z) (.int .u64 v)).heap.size=w1.heap.size:=λv=>(nS.setCell (Wg:=Z) w1 (stA Z) (.int .u64 v) rfl).size;have z:=c.tr.tail (fn:=b.frame.fn) (pos:=b.frame.place) (es:=#[vY (stA Z),Ed (stA Z)]) T O (tC c.yO) (λk e p=>by
   have:k=0∨k=1:=by have:=(aV.1 p).1;simp at this;omega
   rcases this with rfl|rfl<;>(simp at p;subst p)
   .exact .inr ⟨⟨0,false,rfl⟩,by simp[deafBehind,semEvents,vY,Ed]⟩
   .exact .inr ⟨⟨0,true,rfl⟩,by simp[deafBehind,semEvents,vY,Ed]⟩)
   (λe H=>by simp at H;exact H.elim (λx=>x▸uo Af) (λx=>x▸uo KM)) (λe H=>by simp at H;exact H.elim (λx=>x▸yB Af (tC c.yO)) (λx=>x▸yB KM (tC c.yO)))
  rw[e1]at z;cases hr:f with
  |false=>
   subst hr;obtain rfl:=c.st0 rfl;obtain⟨b',h1,k,hq⟩:=hA c.yO;obtain⟨r',hjb⟩:=c.jq.toB;have ha:woken P b b' (w1.setCell (stA Z) (.int .u64 0)) J=J:=woken_run (c.jq.status.elim id λx=>by cases x.2);have hL:=(c.lv.own (g:=b) (g':=b') (w':=w1.setCell (stA Z) (.int .u64 0)) (fn:=b.frame.fn) (pos:=b.frame.place) (es:=#[vY (stA Z),Ed (stA Z)]) (.inr rfl) c.hj).adJ T (Dz c.hj) (k:=k) (by rw[show Deaf _ j=1 from z.deaf1];exact hq);have I:=Ie (P:=P) (g:=b) (g':=b') (w':=w1.setCell (stA Z) (.int .u64 0)) T c.h0;rw[ha]at I;exact⟨b',_,_,h1,NI T O K L M r' _ n1 _ _ s _ (ConcN.upd q1 j k) J u 1 0 (aj _) (jR.trans (y.trans B)) ((C.trans d).trans (.setCell w1 (stA Z) _ rfl)) hjb I hL (Go.ConcX.WgAt.setSt c.yO 0) (by rw[G];exact z)⟩
  |true=>
   subst hr;obtain rfl:=i rfl;obtain⟨b',h1,m,F⟩:=hB c.yO;have o:b'.status= .running:=Goes.running (λ_ _ x=>x.1) _ (RCd.refl _) F;obtain⟨r2,n2,h3⟩:=c.work (es:=#[vY (stA Z),Ed (stA Z)]) (rel':=some K) T o (Go.ConcX.WgAt.setSt c.yO 1) (λe=>by cases e) (by rw[G,e1];exact z);rw[e1]at h3;exact⟨b',_,_,h1,st4 (Fin:=Fin) (ty:=ty) T O L M N K m _ _ s _ q1 _ b' u r2 n2 (jR.trans (y.trans B)) ((C.trans d).trans (.setCell w1 (stA Z) _ rfl)) F h3⟩
theorem st2:∀(m:Nat) (W:Array Goroutine) (w:World) (U:Option (Nat×Nat)) (t:Trace) (q:Nat->Nat) (a b:Goroutine) (X:Bool) (S:Int) (V r n:Nat),W.size=L->nS Z M w->(X=true->S=KK+1)->Goes P false (RCa ty Z N) DC0 (Go.ConcX.AtK1 P ty Z N) m b w->
 PA P ty Z j Fin Y X S V 0 r n (some K) W w t a b q->Reaches P W w U t (Joined P ty Z Fin Y L M):=by
 intro m;induction m with
 |zero=>exact λW w U t q a b X S V r n z A o B h=>fin W w U t q a b X S V r n z A o B h
 |succ m ih=>
  intro W w U t q a b X S V r n z A o B h;rcases Goes.cases B with F|⟨m',hm,F⟩
  .exact fin W w U t q a b X S V r n z A o F h
  .cases hm
   refine lQ T O h λG w1 s t1 d st1 u r1 n1 a1 H v f y c=>?_;have g:=En o y;obtain⟨b',w2,es,h1,⟨rfl,rfl⟩,C⟩:=F w1 (Hf g c f);have i:b'.status= .running:=Goes.running (λ_ _ x=>x.1) w2 (Go.ConcX.RCa.refl w2) C;obtain⟨r2,I,E⟩:=c.idle T i;exact⟨b',w2,#[],h1,ih _ w2 s _ H _ b' d st1 u r2 I (jR.trans (v.trans z)) (A.trans f) g C E⟩
where
 fin (W:Array Goroutine) (w:World) (U:Option (Nat×Nat)) (t:Trace) (q:Nat->Nat) (a b:Goroutine) (X:Bool) (S:Int) (V r n:Nat) (z:W.size=L) (A:nS Z M w) (o:X=true->S=KK+1) (B:∀p,RCa ty Z N w p->Go.ConcX.AtK1 P ty Z N b p)
  (h:PA P ty Z j Fin Y X S V 0 r n (some K) W w t a b q):Reaches P W w U t (Joined P ty Z Fin Y L M):=by
  refine lQ T O h λG w1 s t1 d st1 u r1 n1 a1 H v f y c=>?_;have g:=En o y;obtain⟨_,b',h1,m,C⟩:=B w1 (Hf g c f);have i:b'.status= .running:=Goes.running (λ_ _ x=>x.1) _ (Go.ConcX.RCa.refl _) C;have e1:deafBehind 0 #[sZ .disable]=1:=rfl;have J:=c.tr.tail (fn:=b.frame.fn) (pos:=b.frame.place) (es:=#[sZ .disable]) T O (tC c.yO) (λk e o=>by
   have:k=0:=by have:=(aV.1 o).1;simp at this;omega
   subst this;simp at o;subst o;exact .inl rfl) (λe D=>by simp at D;subst D;simp[sZ]) (λe D=>by simp at D;subst D;trivial)
  obtain⟨r2,I,E⟩:=c.work (es:=#[sZ .disable]) (w2:=w1) (rel':=some K) T i c.yO c.st0 J;rw[e1]at E;exact⟨b',_,_,h1,st3 (Fin:=Fin) (ty:=ty) T O L M N K m _ _ s _ H _ b' d st1 u r2 I (jR.trans (v.trans z)) (A.trans f) g C E⟩
end
end
end
section
open Go.Conc
open Go.ConcX (WgAt wgBlock stA smA KK OfWg RCa RCd DC0 KCa Full Payload Shy DCs EvQ)
open Go.ConcN (sumTo sumTo_upd upd_same)
variable{pl:Payload}{vals:List Value}
structure Eb(Wg C:Nat)(w w':World):Prop where
 size:w'.heap.size=w.heap.size
 block:∀b,b≠Wg->b≠C->w'.heap[b]? =w.heap[b]?
 os:w'.os=w.os
 tape:w'.tape=w.tape
 output:w'.output=w.output
theorem nS.toC{Wg:Nat}{w w':World}(h:nS Wg w w')(C:Nat):Eb Wg C w w':=⟨h.size,λb h1 _=>h.block b h1,h.os,h.tape,h.output⟩
theorem Eb.trans{Wg C:Nat}{a b c:World}(h:Eb Wg C a b)(h':Eb Wg C b c):Eb Wg C a c:=
 ⟨h'.size.trans h.size,λx h1 d=>(h'.block x h1 d).trans (h.block x h1 d),h'.os.trans h.os,h'.tape.trans h.tape,h'.output.trans h.output⟩
theorem PE{C:Nat}{w:World}(h:Full C vals w):w.heap[C]? =some (.cells vals.toArray Payload.ety):=h rfl
theorem Eb.toJ{Wg C:Nat}{w w':World}(h:Eb Wg C w w')(e:Full C vals w)(c:Full C vals w'):nS Wg w w':=
 ⟨h.size,λb h1=>by
  by_cases d:b=C
  .subst d;exact(PE c).trans (PE e).symm
  .exact h.block b h1 d,h.os,h.tape,h.output⟩
@[reducible] def strict(Wg C B:Nat)(d:Wg<B)(e:C<B):Shy Wg C where
 ok act:=(∀x,act.touch? =some x->∃a,x.loc= .cell a∧(a.block=Wg∨a.block=C))∧act.low B
 atomicWg a wr h:=⟨λx c=>by simp only[MemAct.touch?,dh]at c;subst c;exact⟨a,rfl,.inl h⟩,by show a.block<B;omega⟩
 readWg a h:=⟨λx c=>by simp only[MemAct.touch?,dh]at c;subst c;exact⟨a,rfl,.inl h⟩,by show a.block<B;omega⟩
 writeWg a h:=⟨λx c=>by simp only[MemAct.touch?,dh]at c;subst c;exact⟨a,rfl,.inl h⟩,by show a.block<B;omega⟩
 theirs a wr h:=⟨λx c=>by simp only[MemAct.touch?,dh]at c;subst c;exact⟨a,rfl,.inr h⟩,by show a.block<B;omega⟩
 disable:=⟨λx c=>(by cases c),trivial⟩
 enable:=⟨λx c=>(by cases c),trivial⟩
 relMerge:=⟨λx c=>(by cases c),d⟩
 acquire:=⟨λx c=>(by cases c),d⟩
 go1:=⟨λx c=>(by cases c),trivial⟩
 start:=⟨λx c=>(by cases c),trivial⟩
 stop _ _:=True
def V9(P:Program)(ty:TypeId)(Wg:Nat)(K:Ctx)(b:Goroutine)(w:World):Prop:=
 b.status= .running∧∃(pl:Payload) (C:Nat) (c:List Value),C≠Wg∧¬K.fz C∧K.own C∧Full C c w∧
  ∀(e:Shy Wg C) (d:Loc->Prop),KCa ty Wg w->∃m,Goes P false (RCa ty Wg w.heap.size) (DCs d Wg C) (Go.ConcX.AtR0 P ty Wg C w.heap.size c) m b w
section
variable{P:Program}{V:TypeId}{X j:Nat}{Fin:Goroutine->Prop}{Z:Loc->Prop}{Y:Bool}{U:Int}{S d1 r n:Nat}{R:Option Nat}{W:Array Goroutine}{w:World}{T:Option (Nat×Nat)}{t:Trace}{a b:Goroutine}{q:Nat->Nat}
section
variable(Q:j≠0)(O:∀l,Z l->¬OfWg X l)(M:Nat)(N:World)
include Q O
theorem st1[pl:Payload]{C:Nat}(hCW:C≠X){d:Nat}(hW:X<d)(hC:C<d)(J:N.heap.size=d)(hCS:∀x:Addr,x.block=C->¬Z (.cell x)){f:List Value}(hF0:Full C f N){K:Loc->Prop}:
 ∀(m:Nat) (W:Array Goroutine) (w:World) (T:Option (Nat×Nat)) (t:Trace) (q:Nat->Nat) (a b:Goroutine) (Y:Bool) (U:Int) (S r n:Nat),W.size=M->Eb X C N w->(Y=true->U=KK+1)->
  Goes P false (RCa V X d) (@DCs K X C (strict X C d hW hC)) (@Go.ConcX.AtR0 pl P V X C d f) m b w->
  PA P V X j Fin Z Y U S 0 r n none W w t a b q->Reaches P W w T t (Joined P V X Fin Z M N):=by
 intro m;induction m with
 |zero=>exact λW w T t q a b Y U S r n F G H L h=>fin W w T t q a b Y U S r n F G H L h
 |succ m ih=>
  intro W w T t q a b Y U S r n F G H L h;rcases Goes.cases L with hs|⟨m',hm,hs⟩
  .exact fin W w T t q a b Y U S r n F G H hs h
  .cases hm
   refine lQ Q O h λgs1 w1 s t1 g st1 u r1 n1 a1 q1 v i A c=>?_;have k:=En H A;obtain⟨b',w2,es,h1,⟨B,hE⟩,h2⟩:=hs w1 (Hf k c i);have hR2:Eb X C N w2:=(G.trans (i.toC C)).trans ⟨B.size,λx _ hx=>B.block x hx,B.os,B.tape,B.output⟩;have o:b'.status= .running:=Goes.running (λ_ _ x=>x.1) w2 (Go.ConcX.RCa.refl w2) h2;have hd:deafBehind 0 es=0:=qh (λe I=>⟨(hE e I).2.1,(hE e I).2.2.1⟩) 0;have hg:WgAt V X w2 st1 0:=(B.block X (Ne.symm hCW)).trans c.yO;have D:=c.tr.worker (fn:=b.frame.fn) (pos:=b.frame.place) (B':=w2.heap.size) Q (by rw[B.size];exact aj _) O (es:=es) (λe I x hx=>by
    obtain ⟨_, hf, _, hok⟩ := (hE e I).1 0 "";obtain⟨_,hx1,hx2⟩:=hf x hx;obtain⟨y,hy,hyb⟩:=hok.1 x hx;by_cases E:y.block=X
    .have ho:OfWg X x.loc:=⟨y,hy,E⟩
     obtain⟨hp,hs⟩:=hx1 (.inl ho);refine .inr ⟨ho,?_⟩;cases hkx:x.kind with
     |atomic=>rfl
     |plain=>exact aX hkx hp
     |said=>exact aX (hs hkx) (by omega)
    .have hyc:y.block=C:=hyb.resolve_left E
     exact .inl ⟨by rw[hy];exact hCS y hyc,λ⟨z,hz,hzb⟩=>by rw[hy]at hz;cases hz;exact E hzb⟩) (λe I=>by
    have := ((hE e I).1 0 "").2.2.2.2;rw[show w2.heap.size=d by rw[hR2.size,J]];exact this) (rel':=none) (λr hr=>by cases hr)
   obtain⟨r2,n2,h3⟩:=c.work (rel':=none) Q o hg c.st0 D;rw[hd]at h3;exact⟨b',w2,es,h1,ih _ w2 s _ q1 _ b' g st1 u r2 n2 (jR.trans (v.trans F)) hR2 k h2 h3⟩
where
 fin (W:Array Goroutine) (w:World) (T:Option (Nat×Nat)) (t:Trace) (q:Nat->Nat) (a b:Goroutine) (Y:Bool) (U:Int) (S r n:Nat) (F:W.size=M) (G:Eb X C N w) (H:Y=true->U=KK+1)
  (L:∀p,RCa V X d w p->@Go.ConcX.AtR0 pl P V X C d f b p) (h:PA P V X j Fin Z Y U S 0 r n none W w t a b q):Reaches P W w T t (Joined P V X Fin Z M N):=by
  refine lQ Q O h λgs1 w1 s t1 g st1 u r1 n1 a1 q1 v i A c=>?_;have k:=En H A;obtain⟨_,hF,b',h1,m,h2⟩:=L w1 (Hf k c i);have o:b'.status= .running:=Goes.running (λ_ _ x=>x.1) _ (Go.ConcX.RCa.refl _) h2;have D:=c.tr.release (fn:=b.frame.fn) (pos:=b.frame.place) Q O (tC c.yO);obtain⟨r2,n2,h3⟩:=c.work (es:=#[sZ (.releaseMerge (stA X))]) (w2:=w1) (rel':=some t1.size) Q o c.yO c.st0 D;exact⟨b',_,_,h1,st2 (Fin:=Fin) (ty:=V) Q O M N d t1.size m _ _ s _ q1 _ b' g st1 u r2 n2 (jR.trans (v.trans F)) ((G.trans (i.toC C)).toJ hF0 hF) k h2 h3⟩
end
def adE(P:Program)(V:TypeId)(X:Nat)(Fin:Goroutine->Prop)(Z:Loc->Prop)(N:Nat)(Stop:Nat->Goroutine->World->Prop):Array Goroutine->World->Option (Nat×Nat)->Trace->Prop:=λW w T t=>
 ∃b ws,Stop 0 b ws∧Joined P V X Fin Z N ws W w T t
theorem st0(hj0:j≠0)(hSW:∀l,Z l->¬OfWg X l){K:Ctx}(J:V7 K Z)(k:¬K.own X)(A:¬K.fz X)(N0:Nat){Stop:Nat->Goroutine->World->Prop}(i:∀d b w,Stop d b w->d=0∧V9 P V X K b w)
 {d:Nat}{b:Goroutine}{w:World}(o:Walk P false K Stop d b w):∀(W:Array Goroutine) (T:Option (Nat×Nat)) (t:Trace) (q:Nat->Nat) (a:Goroutine) (Y:Bool) (U:Int) (S r n:Nat) (c:World),kX K w c->W.size=N0->(Y=true->U=KK+1)->
  PA P V X j Fin Z Y U S d r n none W c t a b q->Reaches P W c T t (adE P V X Fin Z N0 Stop):=by
 have B:∀{w c:World},nS X w c->kX K w c:=λh=>⟨h.size,λx _ p=>h.block x λe=>k (e▸p),λx p=>h.block x (λe=>A (e▸p)),h.os,h.tape,h.output⟩;induction o with
 |@stop d b w h=>
  intro W T t q a Y U S r n c hr L G f;have hS:=h c hr;obtain⟨rfl,D,pl,C,vals,M,N,O,hF,Q⟩:=i _ _ _ hS;have hC:C<c.heap.size:=(aV.1 (PE hF)).1;have hW:=tC f.yO;have hK:KCa V X c:=by
   cases hr:Y with
   |false=>left;rw[← f.st0 hr];exact f.yO
   |true=>right;rw[← G hr];exact f.yO
  obtain⟨m,Q⟩:=Q (strict X C _ hW hC) (λ_=>True) hK;refine Reaches.then (st1 (Fin:=Fin) hj0 hSW N0 c M hW hC rfl (λx p H=>(J _ C H (by simp[Aq,p])).1 ⟨N,O⟩) hF m W c T t q a b Y U S r n L ((nS.refl c).toC C) G Q f) ?_;exact λW w T t hJ=> .here ⟨b,c,hS,hJ⟩
 |@step d b w g' w' es D hst hw ih=>
  intro W T t q a Y U S r n c hr L G f;refine lQ hj0 hSW f λgs1 w2 sl1 t1 E st1 d01 r1 n1 a1 q1 hN1 hR1 hrs f=>?_;have hk1:=En G hrs;have s:kX K w w2:=hr.trans (B hR1);obtain⟨h1,I⟩:=hst w2 s;have hg:WgAt V X (w' w2) st1 0:=(I.kept X (tC f.yO) (λx=>k x.2)).trans f.yO;have u:(g' w2).status= .running:=by
   cases hw w2 s with
   |stop h=>exact(i _ _ _ (h _ (kX.refl _))).2.1
   |step _ _ _ h=>exact h
  have hP':=f.tr.worker (fn:=b.frame.fn) (pos:=b.frame.place) (B':=(w' w2).heap.size) hj0 I.size hSW (es:=es w2) (λe he x p=>by
   obtain⟨y,v,g,_⟩:=zx (I.evs e he) p;refine .inl ⟨λH=>g.elim (J _ y H v).1 (J _ y H v).2,λ⟨z,hz,F⟩=>?_⟩;rw[hz]at v;simp only[Aq,dh]at v;rcases g with g|g
   .exact k (by rw[← F,v];exact g.2)
   .exact A (by rw[← F,v];exact g.2)) (λe he=>F5 (I.evs e he)) (rel':=none) (λr hr=>by cases hr)
  obtain⟨r2,n2,h3⟩:=f.work (rel':=none) hj0 u hg f.st0 hP';exact⟨g' w2,w' w2,es w2,h1,ih w2 s _ sl1 _ q1 _ E st1 d01 r2 n2 (w' w2) (kX.refl _) (jR.trans (hN1.trans L)) hk1 h3⟩
end
end
end Go.Ev
