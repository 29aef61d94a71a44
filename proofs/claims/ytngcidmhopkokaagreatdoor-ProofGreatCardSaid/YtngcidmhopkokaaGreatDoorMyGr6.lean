/- A part of the proof that ProofGreat returns true. -/
import Derived.Test.YtngcidmhopkokaaGreatDoorMyGr5
import Derived.Test.YtngcidmhopkokaaGreatDoorMyGr1
import Derived.Test.YtngcidmhopkokaaGreatDoorMyGr4
import Derived.Test.YtngcidmhopkokaaGreatDoorMyGr2
import Derived.Test.YtngcidmhopkokaaGreatDoorMyEv4
import Derived.Test.YtngcidmhopkokaaGreatDoorMyStates
import Derived.Test.YtngcidmhopkokaaGreatDoorMyGr3
import Derived.Test.YtngcidmhopkokaaGreatDoorMyEv5
set_option linter.all false
namespace Go.Ev
open Go.Proofs Go.Proofs.Tryz
set_option maxRecDepth 100000
section
variable{L:List LN}{y:LN}{σ:List Nat}
def X8(L:List LN)(y:LN)(a:List LN)(i:Nat):Prop:=(a=L∧L[i]? =some y)∨(y ∉ L∧a=L++[y]∧i=L.length)
def tu(l:List Nat):List Int:=l.map λ(i:Nat)=>(i:Int)
mutual
inductive yE:List LN->T->List LN->Nat->Prop
 |node {L L1 L':List LN} {r:List UInt8} {a:List PV} {u:Int} {ks:List T} {ids:List Nat} {i:Nat}:qj L ks L1 ids->X8 L1 ⟨r,a,u,tu ids⟩ L' i->yE L (.node r a u ks) L' i
inductive qj:List LN->List T->List LN->List Nat->Prop
 |nil {L:List LN}:qj L [] L []
 |cons {L L1 L2:List LN} {t:T} {ts:List T} {i:Nat} {is:List Nat}:yE L t L1 i->qj L1 ts L2 is->qj L (t::ts) L2 (i::is)
end
theorem qj.snoc:∀{ts:List T} {L c d:List LN} {is:List Nat} {t:T} {i:Nat},qj L ts c is->yE c t d i->qj L (ts++[t]) d (is++[i])
 |[],L,c,d,is,t,i,h,h'=>by cases h;exact .cons h' .nil
 |u::ts,L,c,d,is,t,i,h,h'=>by
  cases h with
  |cons a b=>exact .cons a (b.snoc h')
theorem qj.len:∀{ts:List T} {L c:List LN} {is:List Nat},qj L ts c is->is.length=ts.length
 |[],_,_,_,h=>by cases h;rfl
 |_::_,_,_,_,h=>by
  cases h with
  |cons a b=>simp[b.len]
mutual
def T.Yk:T->Prop
 | .node _ a _ ks=>a.length<=268435456∧ZQ ks
def ZQ:List T->Prop
 |[]=>True
 |t::ts=>t.Yk∧ZQ ts
end
theorem Ik:∀{ts:List T} {t:T},ZQ ts->t∈ts->t.Yk
 |[],t,_,h=>by cases h
 |u::ts,t,h,a=>by
  rcases ay.1 a with rfl|a
  .exact h.1
  .exact Ik h.2 a
mutual
def UR(G:List LN->LN->Prop):List LN->T->Prop
 |L,.node r a u ks=>OQ G L ks∧∀b ids,qj L ks b ids->⟨r,a,u,tu ids⟩ ∉ b->G b ⟨r,a,u,tu ids⟩
def OQ(G:List LN->LN->Prop):List LN->List T->Prop
 |_,[]=>True
 |L,t::ts=>UR G L t∧∀a i,yE L t a i->OQ G a ts
end
theorem C8{a b:Int}(h:aL a b=0):a=b:=by unfold aL at h;split at h<;>(try split at h)<;>omega
theorem wT{a b:Int}(h:dQ a b=0):a=0∧b=0:=by unfold dQ at h;split at h<;>omega
theorem Gc{α:Type}{c:α->α->Int}(d:∀a b,c a b=0->a=b):∀l m,tX c l m=0->l=m
 |[],[],_=>rfl
 |[],_::_,h=>aP h (show ¬(-1:Int)=0 by decide)
 |_::_,[],h=>aP h (show ¬(1:Int)=0 by decide)
 |a::l,b::m,h=>by
  obtain⟨h1,e⟩:=wT (show dQ (c a b) (tX c l m)=0 from h);rw[d a b h1,Gc d l m e]
theorem Ut{a b:UInt8}(h:FL a b=0):a=b:=by
 rw[Sm]at h;have:=C8 h;exact UInt8.toNat_inj.1 (by omega)
theorem Sk{s t:List UInt8}(h:kN s t=0):s=t:=by rw[N8]at h;exact Gc (λa b=>Ut) s t h
theorem ZE{v w:PV}(h:Jd v w=0):v=w:=by
 obtain⟨h1,a⟩:=wT h;obtain⟨a,c⟩:=wT a;cases v;cases w;have e1:=C8 h1;have e2:=C8 a;have b:=Sk c;simp only at e1 e2 b;rw[e1,e2,b]
theorem Xe{l m:List PV}(h:rA l m=0):l=m:=by rw[EH]at h;exact Gc (λa b=>ZE) l m h
theorem ZF{x:LN}(h:mU x y=0):x=y:=by
 obtain⟨h1,c⟩:=wT h;obtain⟨c,d⟩:=wT c;obtain⟨g,i⟩:=wT (show dQ (kN x.rel y.rel) (rA x.args y.args)=0 from h1);rw[EI]at d;cases x;cases y;have e1:=Sk g;have e2:=Xe i;have e:=C8 c;have f:=Gc (λa b=>C8) _ _ d;simp only at e1 e2 e f;rw[e1,e2,e,f]
theorem yh.ins{K:List LN}{k:Nat}(h:yh L σ K)(o:rQ K y k false):yh (L++[y]) (σ.take k++L.length::σ.drop k) (K.take k++y::K.drop k):=by
 have u:=o.le;have v:=h.len;have w:=h.Wi;refine⟨by simp;omega,by simp;omega,λi j c=>?_,?_,λx e=>?_⟩
 .have f:(σ.take k).length=k:=by rw[fM];omega
  have g:(K.take k).length=k:=by rw[fM];omega
  by_cases h1:i<k
  .rw[aU (by omega),ig,aH h1]at c
   obtain⟨p,r⟩:=h.get i j c;refine⟨by simp;omega,?_⟩;rw[aU p,r,aU (by omega),ig,aH h1]
  .by_cases p:i=k
   .subst p
    rw[aY (by omega),f,oN]at c;obtain rfl:L.length=j:=by simpa using c
    refine⟨by simp,?_⟩;rw[aY (ah _),oN,aY (by omega),g,oN];rfl
   .obtain⟨d,rfl⟩:∃d,i=k+1+d:=⟨i - k - 1,by omega⟩
    rw[aY (by omega),f,show k+1+d - k=d+1 by omega,fO,jE]at c;obtain⟨r,t⟩:=h.get _ _ c;refine⟨by simp;omega,?_⟩;rw[aU r,t,aY (by omega),g,show k+1+d - k=d+1 by omega,fO,jE]
 .have s:=h.srt
  unfold ZY at s ⊢;have l:∀a∈K.take k,mU a y<0:=λa q=>by
   obtain⟨i,hi,rfl⟩:=jN.1 q;rw[fM]at hi;rw[List.getElem_take];exact o.lo i _ (by omega) (aK (by omega))
  have m:∀b∈K.drop k,mU y b<0:=λb n=>by
   obtain⟨i,hi,rfl⟩:=jN.1 n;rw[mJ]at hi;rw[List.getElem_drop];have h1:=o.hi (k+i) _ (by omega) (aK (by omega));have p:=o.ne rfl (k+i) _ (aK (by omega));exact Gm.Lj (by omega)
  rw[lJ,dG];refine⟨s.sublist (List.take_sublist k K),⟨m,s.sublist (List.drop_sublist k K)⟩,λa q b n=>?_⟩;rcases ay.1 n with rfl|n
  .exact l a q
  .exact Gm.AJ (l a q) (kC (m b n))
 .rcases bF.1 e with e|e
  .have:=h.all x e
   rw[← fq k K]at this;rcases bF.1 this with h1|h1
   .exact jO _ h1
   .exact gJ _ (bg _ h1)
  .rcases bR.1 e with rfl
   exact gJ _ (bK ..)
theorem yh.not{K:List LN}{k:Nat}(h:yh L σ K)(a:rQ K y k false):y ∉ L:=λb=>by
 obtain⟨i,hi,e⟩:=jN.1 (h.all y b);have:=a.ne rfl i y (by rw[← e];exact aK hi);rw[Gm.refl]at this;exact this rfl
theorem yh.found{K:List LN}{k:Nat}(h:yh L σ K)(b:rQ K y k true):∃j,σ[k]? =some j∧L[j]? =some y:=by
 obtain⟨x,h1,c⟩:=b.eq rfl;obtain rfl:=ZF c;have d:k<σ.length:=by rw[h.len];exact(aJ.1 h1).1
 have a:σ[k]? =some σ[k]:=aK d;exact⟨_,a,by rw[(h.get k _ a).2];exact h1⟩
end
section
variable{L:List LN}{N:Nat}{R:rP}{SV:AV}{m:Mm}{ow σ:List Nat}
def Jh(old:Old)(m:Mm)(ob:Nat)(c:List Nat)(d:AV)(L:List LN)(σ:List Nat):Prop:=
 (c=[ob]∧L=[]∧σ=[]∧d= .aM∧m ob= .cells [.aM] 30 false false)∨
 (∃a b cs,c=[ob,a,b]∧[ob,a,b].Nodup∧L≠[]∧d= .sl b 0 σ.length none∧m ob= .cells [.sl a 0 L.length none] 30 false false∧m a= .cells cs 65 true false∧Aw old cs L∧m b= .cells (nums σ) 3 true false)
theorem Jh.mono{old old':Old}{m l:Mm}{ob:Nat}{j:List Nat}{n:AV}{L:List LN}{σ:List Nat}(h:Jh old m ob j n L σ)(k:Old.le old old')(i:∀z∈j,l z=m z):Jh old' l ob j n L σ:=by
 rcases h with⟨rfl,a,b,c,d⟩|⟨o,p,cs,rfl,a,b,c,d,e,f,g⟩
 .exact .inl ⟨rfl,a,b,c,by rw[i _ (by simp)];exact d⟩
 .exact .inr ⟨o,p,cs,rfl,a,b,c,by rw[i _ (by simp)];exact d,by rw[i _ (by simp)];exact e,f.mono k,by rw[i _ (by simp)];exact g⟩
def UN(L:List LN):Prop:=∀l∈L,l.args.length<=268435456∧l.kids.length<=268435456
section
variable(W:Fe)(Y:Ge)(X:∀old,Fw old)(Z:∀old,Gw old)
include W Y X Z
theorem aed{old:Old}{ob y:Nat}{st:AV}{c:List AV}{x:LN}{K:List LN}(hO:Jh old m ob ow SV L σ)(n:yh L σ K)(O:UN L)(hn:L.length<=134217000)(J:m y= .cells c 65 false false)(g:yM old c x)(o:y ∉ ow)(P:y<N)(d:∀z∈ow,z<N)(w:N+13<=OLD)(hI:∀k old',rQ K x k false->L≠[]->UQ old' σ k)
 (B':∀old' p A Q q K' (i k:Nat) s N',Old.le old old'->X8 L x Q i->Jh old' s ob p A Q q->yh Q q K'->q[k]? =some i->(∀z∈p,z∈ow∨N<=z)->(∀z∈p,z<N')->N<=N'->N'<=N+13->(∀j,j<N->j ∉ ow->s j=m j)->dA prog E old' (uP (.ptr ob 0) A st k) s N' R):
 dA prog E old (za (.ptr ob 0) SV st (.ptr y 0)) m N R:=by
 rcases hO with⟨rfl,rfl,rfl,rfl,l⟩|⟨u,r,cs,rfl,hd,B,rfl,l,C,S,D⟩
 .have hK:K=[]:=bB.1 (by rw[← n.len];rfl)
  subst hK;refine Zm W Y X Z l J g (λe=>o (by rw[e];simp)) (d ob (by simp)) P w ?_;intro old' u r s h1 h2 M h4 h5 h6 T U V h10;have hob':=d ob (by simp);refine B' old' [ob,u,r] (.sl r 0 1 none) [x] [0] [x] 0 0 s (N+13) h1 (.inr ⟨by simp,rfl,rfl⟩) (.inr ⟨u,r,c,rfl,?_,by simp,rfl,T,U,?_,V⟩) ?_ rfl ?_ ?_ (by omega) (by omega) (λj h11 h12=>h10 j h11 (λe=>h12 (by rw[e];simp)))
  .simp;omega
  .obtain⟨a,k,rfl,g1,g2⟩:=g.mono h1
   exact .cons g1 g2 .nil
  .exact⟨rfl,rfl,λi j h=>by
    cases i with
    |zero=>cases h;exact⟨by simp,rfl⟩
    |succ i=>simp at h,mI _ _,λy J=>J⟩
  .intro z b
   simp only[ay,aB,bn]at b;rcases b with rfl|rfl|rfl
   .exact .inl (by simp)
   .exact .inr h2
   .exact .inr h4
  .intro z b
   simp only[ay,aB,bn]at b;rcases b with rfl|rfl|rfl<;>omega
 .have F:=hd
  simp only[fJ,ay,aB,bn,not_or]at F o;obtain⟨⟨d1,d2⟩,d3,_⟩:=F;obtain⟨y1,y2,y3⟩:=o;have hobN:=d ob (by simp);have hoqN:=d u (by simp);have hsqN:=d r (by simp);refine Zl W Y X Z l C D S n O hn J g ?_ ?_ w (λk old' _ t=>hI k old' t B) ?_ ?_
  .simp only[fJ,ay,aB,bn,not_or]
   exact⟨⟨Ne.symm y1,d1,d2⟩,⟨y2,y3⟩,d3,by simp⟩
  .intro z b
   simp only[ay,aB,bn]at b;rcases b with rfl|rfl|rfl|rfl<;>omega
  .intro old' k f t
   obtain⟨j,j1,v⟩:=n.found t;exact B' old' [ob,u,r] _ L σ K j k m N f (.inl ⟨rfl,v⟩) (.inr ⟨u,r,cs,rfl,hd,B,rfl,l,C,S.mono f,D⟩) n j1 (λz b=> .inl b) d (ah _) (by omega) (λ_ _ _=>rfl)
  .intro old' k G H s f t h1 h2 M h4 h5 h6 T U V
   have hkl:k<=σ.length:=by rw[n.len];exact t.le
   have I:(σ.take k++L.length::σ.drop k).length=σ.length+1:=by simp;omega
   refine B' old' [ob,G,H] _ (L++[x]) (σ.take k++L.length::σ.drop k) (K.take k++x::K.drop k) L.length k s (N+13) f (.inr ⟨n.not t,rfl,rfl⟩) (.inr ⟨G,H,cs++c,rfl,?_,by simp,by rw[I],by rw[h6];simp,T,?_,U⟩) (n.ins t) ?_ ?_ ?_ (by omega) (by omega) ?_
   .simp only[fJ,ay,aB,bn,not_or]
    exact⟨⟨by omega,by omega⟩,h5,by simp⟩
   .obtain⟨a,k,rfl,g1,g2⟩:=g.mono f
    exact(S.mono f).app (.cons g1 g2 .nil)
   .rw[aY (by rw[fM];omega),fM,show k - min k σ.length=0 by omega];rfl
   .intro z b
    simp only[ay,aB,bn]at b;rcases b with rfl|rfl|rfl
    .exact .inl (by simp)
    .exact .inr h1
    .rcases M with rfl|M
     .exact .inl (by simp)
     .exact .inr M
   .intro z b
    simp only[ay,aB,bn]at b;rcases b with rfl|rfl|rfl<;>omega
   .intro j j1 v
    simp only[ay,aB,bn,not_or]at v;exact V j j1 v.1 v.2.1 v.2.2
end
end
section
variable{L L':List LN}{i:Nat}{ids:List Nat}
def Ye(G:List LN->LN->Prop)(t:T):Prop:=∀(old:Old) (w s x N ob f to:Nat) (c:List Nat) (h:AV) (L K:List LN) (σ:List Nat) (S:List AV) (g:Bool) (l:Option Nat) (m:Mm) (R:rP),
 Jh old m ob c h L σ->yh L σ K->UN L->UR G L t->t.Yk->
 m s= .cells S 56 g false->m x= .cells [.ptr (OLD+f) to,.aM] 58 false false->tq old (.ptr (OLD+f) to) t->S[w]? =some (.ptr x 0)->FR l g S (w+1)->
 s≠x->s ∉ c->x ∉ c->s<N->x<N->(∀z∈c,z<N)->N+21*t.size<=OLD+6->w+t.size<=134217000->L.length+t.size<=134217000->
 (∀old' a d e n b (i k:Nat) s' S' cp' g' m' N',Old.le old old'->yE L t e i->Jh old' m' ob a d e b->yh e b n->UN e->b[k]? =some i->e.length<=L.length+t.size->
  m' s'= .cells S' 56 g' false->FR cp' g' S' w->(∀i,i<w->S'[i]? =S[i]?)->(s'=s∨N<=s')->s'<N'->s' ∉ a->(∀z∈a,z∈c∨N<=z)->(∀z∈a,z<N')->N<=N'->N'+6<=N+21*t.size->(∀j,j<N->j ∉ c->j≠s->j≠x->m' j=m j)->
  dA prog E old' (uP (.ptr ob 0) d (.sl s' 0 w cp') k) m' N' R)->
 dA prog E old (IJ (.ptr ob 0) h (.sl s 0 (w+1) l)) m N R
theorem D5:∀{ts:List T} {t:T},t∈ts->t.size<=gP ts
 |[],t,h=>by cases h
 |u::ts,t,h=>by
  show t.size<=u.size+gP ts;rcases ay.1 h with rfl|h
  .omega
  .have:=D5 h;omega
theorem UR.kids{G:List LN->LN->Prop}{L:List LN}:∀{t:T},UR G L t->OQ G L t.kids∧∀a ids,qj L t.kids a ids->⟨t.rel,t.args,t.rule,tu ids⟩ ∉ a->G a ⟨t.rel,t.args,t.rule,tu ids⟩
 | .node _ _ _ _,h=>h
theorem T.Yk.kids:∀{t:T},t.Yk->t.args.length<=268435456∧ZQ t.kids
 | .node _ _ _ _,h=>h
theorem yE.of{a:List LN}:∀{t:T},qj L t.kids a ids->X8 a ⟨t.rel,t.args,t.rule,tu ids⟩ L' i->yE L t L' i
 | .node _ _ _ _,h,h'=> .node h h'
theorem Ae(l:List Nat):(tu l).length=l.length:=bH _
section
variable(W:Fe)(Y:Ge)(X:∀old,Fw old)(Z:∀old,Gw old)
include W Y X Z
theorem aax{G:List LN->LN->Prop}(hI:∀old L K σ y k,yh L σ K->L≠[]->L.length<=134217000->G L y->rQ K y k false->UQ old σ k){t:T}(ih:∀u∈t.kids,Ye G u)(J:t.Yk){L0:List LN}(hG:∀L1 ids,qj L0 t.kids L1 ids->⟨t.rel,t.args,t.rule,tu ids⟩ ∉ L1->G L1 ⟨t.rel,t.args,t.rule,tu ids⟩)(hkl:t.kids.length<=134217000):
 ∀(r j:Nat),j+r=t.kids.length->∀(old:Old) (w s x N ob tb to:Nat) (v:List Nat) (SV M:AV) (L K:List LN) (σ ids:List Nat) (S:List AV) (g:Bool) (cp:Option Nat) (m:Mm) (R:rP),
 Jh old m ob v SV L σ->yh L σ K->UN L->qj L0 (t.kids.take j) L ids->OQ G L (t.kids.drop j)->
 m s= .cells S 56 g false->m x= .cells [.ptr (OLD+tb) to,M] 58 false false->UO m M (tu ids)->(∀q,PG M q->q<N∧q≠s∧q≠x∧q ∉ v)->tq old (.ptr (OLD+tb) to) t->S[w]? =some (.ptr x 0)->FR cp g S (w+1)->
 s≠x->s ∉ v->x ∉ v->s<N->x<N->(∀z∈v,z<N)->N+21*gP (t.kids.drop j)+15<=OLD->w+gP (t.kids.drop j)+1<=134217000->L.length+gP (t.kids.drop j)+1<=134217000->
 (∀old' O SV' L' K' σ' (i k:Nat) s' S' cp' g' m' N',Old.le old old'->yE L0 t L' i->Jh old' m' ob O SV' L' σ'->yh L' σ' K'->UN L'->σ'[k]? =some i->L'.length<=L.length+gP (t.kids.drop j)+1->
  m' s'= .cells S' 56 g' false->FR cp' g' S' w->(∀i,i<w->S'[i]? =S[i]?)->(s'=s∨N<=s')->s'<N'->s' ∉ O->(∀z∈O,z∈v∨N<=z)->(∀z∈O,z<N')->N<=N'->N'<=N+21*gP (t.kids.drop j)+15->(∀j,j<N->j ∉ v->j≠s->j≠x->¬PG M j->m' j=m j)->
  dA prog E old' (uP (.ptr ob 0) SV' (.sl s' 0 w cp') k) m' N' R)->
 dA prog E old (IJ (.ptr ob 0) SV (.sl s 0 (w+1) cp)) m N R
 |0,j,hj,old,w,s,x,N,ob,tb,to,v,SV,M,L,K,σ,ids,S,g,cp,m,R,hO,hS,hLl,hF,hA,hs,hx,hkv,hkd,hp,hT,hst,hne,hso,hxo,hsN,hxN,hoN,hB,hw,hLn,B'=>by
  have f:=hF.len;rw[jk (by omega)]at hF f;refine agp W Y X Z hs hx hne hsN hxN (by omega) hst (by omega) hT hkv (λk F=>(hkd k F).1) hp J.kids.1 (by rw[Ae];exact f) ?_;intro old1 y c m1 h1 p h3 h4 h5 h6;have how:∀z∈v,m1 z=m z:=λz b=>h6 z (hoN z b) λF=>(hkd z F).2.2.2 b;refine aed W Y X Z (hO.mono h1 how) hS hLl (by omega) h4 h5 (λhy=>by have:=hoN y hy;omega) (by omega) (λz b=>by have:=hoN z b;omega) (by omega) (λk old' hf hL0=>hI old' L K σ _ k hS hL0 (by omega) (hG L ids hF (hS.not hf)) hf) ?_;intro A C SV2 L2 P K2 i k m2 N2 g1 g2 g3 g4 g5 g6 g7 g8 g9 g10;have Q:L2.length<=L.length+1:=by
   rcases g2 with⟨rfl,_⟩|⟨_,rfl,_⟩
   .omega
   .simp
  refine B' A C SV2 L2 K2 P i k s S cp g m2 N2 (Old.le_trans h1 g1) (yE.of hF g2) g3 g4 ?_ g5 (by omega) ?_ hst.pop (λ_ _=>rfl) (.inl rfl) (by omega) ?_ ?_ g7 (by omega) (by omega) (λq q1 q2 q3 q4 q5=>?_)
  .rcases g2 with⟨rfl,_⟩|⟨_,rfl,_⟩
   .exact hLl
   .intro l hl
    rcases bF.1 hl with hl|hl
    .exact hLl l hl
    .rcases bR.1 hl with rfl
     refine⟨J.kids.1,?_⟩;show(tu ids).length<=_;rw[Ae,f];omega
  .rw[g10 s (by omega) hso,h6 s hsN λF=>(hkd s F).2.1 rfl];exact hs
  .intro b
   rcases g6 s b with h|h
   .exact hso h
   .omega
  .intro z b
   rcases g6 z b with h|h
   .exact .inl h
   .exact .inr (by omega)
  .rw[g10 q (by omega) q2];exact h6 q q1 q5
 |r+1,j,hj,old,w,s,x,N,ob,tb,to,v,SV,M,L,K,σ,ids,S,g,cp,m,R,hO,hS,hLl,hF,hA,hs,hx,hkv,hkd,hp,hT,hst,hne,hso,hxo,hsN,hxN,hoN,hB,hw,hLn,B'=>by
  have f:=hF.len;rw[fM,Nat.min_eq_left (by omega)]at f;have U:j<t.kids.length:=by omega
  obtain⟨u,hu⟩:∃u,t.kids[j]? =some u:=⟨_,aK U⟩;have hum:u∈t.kids:=bE hu;have H:t.kids.drop j=u::t.kids.drop (j+1):=by
   obtain⟨e1,e2⟩:=aJ.1 hu;rw[bL e1,e2]
  have Q:gP (t.kids.drop j)=u.size+gP (t.kids.drop (j+1)):=by rw[H];rfl
  have hup:=u.size_pos;rw[Q]at hB hw hLn;rw[H]at hA;obtain⟨hA1,hA2⟩:=hA;obtain⟨a,ka,kc,ks,r1,r2,r3,lF,lR,lK⟩:=hp.reads;rcases r3 with⟨h0,_⟩|⟨bk,ok,rfl,hC⟩
  .rw[h0]at U;exact aP U (iq _)
  .refine aec W Y X Z hs hx hne hsN hxN (by omega) hst (by omega) hT (by have:=hkv.ok;rwa[Ae,f]at this) lK U ?_
   intro s1 S1 cp1 g1 m1 h1 p h3 h4 h5 h6 h7 h8;obtain⟨cu,hcu,hcu2⟩:=r2.at hC hu;have hpu:tq old (.ptr (OLD+bk) (ok+j*4)) u:=⟨bk,ok+j*4,cu,rfl,hcu,hcu2⟩;have how:∀z∈v,m1 z=m z:=λz b=>h8 z (hoN z b) (λe=>hso (e▸b));refine ih u hum old (w+1) s1 N (N+3) ob bk (ok+j*4) v SV L K σ S1 g1 cp1 m1 R (hO.mono (Old.le_refl _) how) hS hLl hA1 (Ik J.kids.2 hum) h1 h7 hpu h6 h4 h3 ?_ ?_ (by omega) (by omega) (λz b=>by have:=hoN z b;omega) (by omega) (by omega) (by omega) ?_
   .intro b
    rcases p with rfl|p
    .exact hso b
    .have:=hoN s1 b;omega
   .intro b;have:=hoN N b;omega
   .intro A C SV2 L2 K2 P i k s2 S2 cp2 g2 m2 N2 e1 e2 e3 e4 e5 e6 e7 e8 e9 e10 d e12 e13 e14 V e16 e17 e18
    have hx2:m2 x= .cells [.ptr (OLD+tb) to,M] 58 false false:=by
     rw[e18 x (by omega) hxo (by omega) (by omega),h8 x hxN (Ne.symm hne)];exact hx
    have hkv2:UO m2 M (tu ids):=by
     rcases hkv with⟨rfl,hi⟩|⟨q,rfl,hq,hq0⟩
     .exact .inl ⟨rfl,hi⟩
     .obtain⟨c1,c2,c3,c4⟩:=hkd q ⟨_,_,_,rfl⟩
      exact .inr ⟨q,rfl,by rw[e18 q (by omega) c4 (by omega) (by omega),h8 q c1 c2];exact hq,hq0⟩
    have hL2:L2≠[]:=by
     intro h;rw[h]at e4;have:=e4.Wi;have F:=(aJ.1 e6).1;rw[this]at F;exact aP F (iq _)
    rcases e3 with⟨_,h,_⟩|⟨oq,sq,cs,how2,hnd,_,hSV,hob2,hoq2,hcs2,hsq2⟩
    .exact aP h hL2
    have e3:Jh A m2 ob C SV2 L2 P:= .inr ⟨oq,sq,cs,how2,hnd,hL2,hSV,hob2,hoq2,hcs2,hsq2⟩;have B:sq∈C:=by rw[how2];simp
    have D:∀{z:Nat},z<N->z ∉ v->z ∉ C:=λ{z} h1 p h3=>by
     rcases e14 z h3 with h|h
     .exact p h
     .omega
    subst hSV;have hnds:[s2,x,sq].Nodup:=by
     simp only[fJ,ay,aB,bn,not_or];refine⟨⟨?_,λe=>e13 (e▸B)⟩,λe=>D hxN hxo (e▸B),by simp⟩;rcases d with rfl|d
     .omega
     .omega
    refine fup W Y X Z (num:=i) e8 hx2 hsq2 (by rw[e10 w (by omega),h5 w (by omega)];exact hT) hkv2 e6 (by omega) (by rw[Ae,f];omega) hnds ?_ (λq hq=>?_) (by omega) ?_
    .intro z b
     simp only[ay,aB,bn]at b;rcases b with rfl|rfl|rfl
     .exact e12
     .omega
     .exact V _ B
    .obtain⟨c1,c2,c3,c4⟩:=hkd q hq
     refine⟨by omega,?_,c3,λe=>D c1 c4 (e▸B)⟩;rcases d with rfl|d
     .rcases p with rfl|p
      .exact c2
      .omega
     .omega
    .intro kv' q m' I hq1 hq2 f1 f2 f3
     have hids2:tu ids++[(i:Int)]=tu (ids++[i]):=by unfold tu;rw[jY];rfl
     have fr:∀{z:Nat},z<N->z ∉ v->z≠s->z≠x->¬PG M z->m' z=m z:=λ{z} z1 z2 z3 z4 z5=>by
      rw[f3 z (by omega) z4 z5,e18 z (by omega) z2 (by omega) (by omega),h8 z z1 z3]
     refine aax hI ih J hG hkl r (j+1) (by omega) A w s2 x (N2+3) ob tb to C _ kv' L2 K2 P (ids++[i]) S2 g2 cp2 m' R (e3.mono (Old.le_refl _) λz b=>?_) e4 e5 ?_ (hA2 L2 i e2) ?_ f1 ?_ ?_ (hp.mono e1) ?_ e9 ?_ e13 (D hxN hxo) (by omega) (by omega) (λz b=>by have:=V z b;omega) (by omega) (by omega) (by omega) ?_
     .exact f3 z (by have:=V z b;omega) (λe=>D hxN hxo (e▸b)) (λF=>by
       obtain⟨c1,c2,c3,c4⟩:=hkd z F;exact D c1 c4 b)
     .have:=hF.snoc e2
      rw[List.take_succ,hu];exact this
     .rw[f3 s2 e12 (λe=>?_) (λF=>?_)];exact e8
      .rcases d with rfl|d
       .omega
       .omega
      .obtain⟨c1,c2,c3,c4⟩:=hkd s2 F
       rcases d with h|d
       .rcases p with h'|p
        .exact c2 (h.trans h')
        .omega
       .omega
     .rw[← hids2]
      refine .inr ⟨q,by rw[I,fF];rfl,f2,by simp⟩
     .intro q' hq'
      obtain⟨o,n,c,h⟩:=hq';rw[I]at h;cases h;refine⟨by omega,by omega,by omega,λb=>?_⟩;have:=V _ b;omega
     .rw[e10 w (by omega),h5 w (by omega)];exact hT
     .rcases d with rfl|d
      .omega
      .omega
     .intro old3 ow3 SV3 L3 K3 σ3 i3 k3 s3 S3 cp3 g3 m3 N3 p1 p2 p3 p4 p5 p6 p7 p8 p9 p10 p11 p12 p13 p14 p15 p16 p17 p18
      refine B' old3 ow3 SV3 L3 K3 σ3 i3 k3 s3 S3 cp3 g3 m3 N3 (Old.le_trans e1 p1) p2 p3 p4 p5 p6 (by rw[Q];omega) p8 p9 (λz b=>by rw[p10 z b,e10 z (by omega),h5 z (by omega)]) ?_ p12 p13 ?_ p15 (by omega) (by rw[Q];omega) ?_
      .rcases p11 with rfl|p11
       .rcases d with rfl|d
        .rcases p with p|p
         .exact .inl p
         .exact .inr p.1
        .exact .inr (by omega)
       .exact .inr (by omega)
      .intro z b
       rcases p14 z b with h|h
       .rcases e14 z h with h|h
        .exact .inl h
        .exact .inr (by omega)
       .exact .inr (by omega)
      .intro z z1 z2 z3 z4 z5
       rw[p18 z (by omega) (D z1 z2) ?_ z4 ?_,fr z1 z2 z3 z4 z5]
       .rcases d with rfl|d
        .rcases p with rfl|p
         .exact z3
         .omega
        .omega
       .rintro⟨o,n,c,h⟩
        rw[I]at h;cases h;omega
theorem R8{G:List LN->LN->Prop}(Q:∀old L K σ y k,yh L σ K->L≠[]->L.length<=134217000->G L y->rQ K y k false->UQ old σ k):∀(n:Nat) (t:T),t.size<=n->Ye G t
 |0,t,h=>by have:=t.size_pos;omega
 |n+1,t,h=>by
  intro old w s x N ob U to V SV L K σ S g cp m R hO hS a hA b hs hx hp hT c d e f j l o hB hw hLn B';have hsz:=nG t;obtain⟨p,r⟩:=hA.kids;have hkl:=wO t.kids;refine aax W Y X Z Q (λu hu=>R8 Q n u (by have:=D5 hu;omega)) b r (by omega) t.kids.length 0 (by omega) old w s x N ob U to V SV .aM L K σ [] S g cp m R hO hS a (by rw[List.take_zero];exact .nil) (by rw[fP];exact p) hs hx (.inl ⟨rfl,rfl⟩) (λq hq=>by obtain⟨_,_,_,h⟩:=hq;cases h) hp hT c d e f j l o (by rw[fP];omega) (by rw[fP];omega) (by rw[fP];omega) ?_;intro old' v A L' K' B i k s' S' C g' m' N' p1 p2 p3 p4 p5 p6 p7 p8 p9 D E F H I J M O P;rw[fP]at p7 O;exact B' old' v A L' K' B i k s' S' C g' m' N' p1 p2 p3 p4 p5 p6 (by omega) p8 p9 D E F H I J M (by omega) (λz z1 z2 z3 z4=>P z z1 z2 z3 z4 (λhk=>by obtain⟨_,_,_,h⟩:=hk;cases h))
end
end
section
variable{L:List LN}{cs:List AV}{h:AH}{i lb lc lo x:Nat}
noncomputable def mOf(h:AH):Mm:=λi=>match h.tr.get i with |some o=>o|none=> .dead
theorem Nc(a:(mOf h i).live):h.tr.get i=some (mOf h i):=by
 unfold mOf at a ⊢;cases e:h.tr.get i with
 |none=>rw[e]at a;exact a.elim
 |some o=>rfl
section
variable(W:Fe)(Y:Ge)(X:∀old,Fw old)(Z:∀old,Gw old)
include W Y X Z
theorem c36{old:Old}{fu:Nat}(A:Aw old cs L)(B:iI old lb lo (L.length*4)=some cs)(g:∀l∈L,l.args.length<=268435456∧l.kids.length<=1048576)(C:OkL L fu x)(N:(qA L fu x).size<=268435456):
 dU prog E old 36 [.aO (some (lb,lo)) L.length lc,zI x] (λc v=>wI c v (qA L fu x)):=by
 refine dU.KT (Z old) (by kernel_rfl) (bO.of (gx0 W Y old (X old) (Z old) lb lo L.length lc x) (aT rfl) ?_);refine bO.ofM (m:=mOf (bG pI pI (.cells [zP 1 0,zI x] 168 false false))) ?_ (λi F=>Nc F) rfl;refine RY W Y X Z g fu x C old 0 2 1 3 (.ptr 0 0) (.ptr 1 0) [.ptr 1 0,zI x] [] z4 [] false (some 1) _ _ cs A B rfl rfl rfl (by decide) (by decide) (by decide) (by unfold OLD;omega) (.inr ⟨rfl,rfl,rfl,ah _⟩) (by omega) rfl rfl ?_;intro old' d O f g' P G N' Q R t S T U u w H I J;obtain⟨a,j,k,ks,rfl,K,V,f3⟩:=u.one;obtain⟨n,o,p,rfl⟩:=K.shape;rw[nA,bD]at w;have M:G 0= .cells z4 28 false false:=H 0 (by decide) (by decide) (by decide);have q:d<OLD:=by unfold OLD at*;omega
 have hs2:2<=d:=by rcases t with rfl|t<;>omega
 obtain⟨θ,r⟩:=Pm.of [0,1,2] [1,0,d] rfl (by decide) (by simp;omega) (by simp;decide) (λx y=>by simp at y;rcases y with rfl|rfl|rfl<;>first|decide|exact q);obtain⟨t0,t1,t2⟩:θ.to 0=1∧θ.to 1=0∧θ.to 2=d:=by
  have h:[θ.to 0,θ.to 1,θ.to 2]=[1,0,d]:=r;simp only[dO,j6]at h;exact h
 have D:=gx5 W Y old' (X old') (Z old') lb lo L.length lc f (qA L fu x).rel n o p (qA L fu x).rule j (qA L fu x).kids.length k;refine dA.Cw (θ:=θ) (N':=N') (l:=[(1,.dead),(0,.dead)]) ⟨λe b=>?_,λe b=>?_,λe b s=>?_,λi h1 z=>?_,ah _,rfl,by unfold OLD at*;omega,rfl,rfl⟩ D ⟨rfl,rfl,rfl⟩ ?_ ⟨⟨_,rfl,u⟩,rfl⟩
 .have b:e∈[(0,AO.cells [.str (qA L fu x).rel,.aO n o p,zI (qA L fu x).rule,.aO j (qA L fu x).kids.length k] 28 false false),(1,.cells z4 28 false false)]:=b
  simp only[ay,aB,bn]at b;rcases b with rfl|rfl
  .rw[t0,w];rfl
  .rw[t1,M];rfl
 .have b:e∈[(0,AO.cells [.str (qA L fu x).rel,.aO n o p,zI (qA L fu x).rule,.aO j (qA L fu x).kids.length k] 28 false false),(1,.cells z4 28 false false)]:=b
  simp only[ay,aB,bn]at b;rcases b with rfl|rfl
  .rw[t0];simp
  .rw[t1];simp
 .simp only[ay,aB,bn]at b
  rcases b with rfl|rfl<;>exact s.elim
 .have h1:2<=i:=h1
  have z:i<2:=z;omega
 .show _=OT lb lo L.length lc (.ptr (θ.to 1) 0) (.ptr (θ.to 0) 0) (.sl (θ.to 2) 0 0 f)
  rw[t0,t1,t2]
end
end
section
variable{G:List LN->LN->Prop}{v:AV}
section
variable(W:Fe)(Y:Ge)(X:∀old,Fw old)(Z:∀old,Gw old)
include W Y X Z
theorem c6(old:Old){t:T}(hv:wI old v t)(hs:t.size<=65536)(B:t.Yk)(hG:UR G [] t)(hI:∀old L K σ y k,yh L σ K->L≠[]->L.length<=134217000->G L y->rQ K y k false->UQ old σ k):
 dU prog E old 6 [v] (λold' w=>∃L i,yE [] t L i∧(∃b c,w= .aO (some (b,0)) L.length c)∧Dv old' w L∧L.length<=t.size∧UN L):=by
 obtain⟨cs,rfl,h⟩:=hv;have A:=h.len;obtain⟨a,ka,kc,ks,rfl,f1,f2,f3⟩:=h.one;refine dU.KT (Z old) (by kernel_rfl) (bO.of (fo1 W Y old (X old) (Z old) t.rel a t.rule ka t.kids.length kc) (aT rfl) ?_);refine bO.box h rfl rfl (λb=>AF.jd (by show(((true&&(Nat.blt (OLD+b) 0||Nat.ble OLD (OLD+b))&&true)&&true&&true)&&true)=true;rw[oI];rfl)) λd b hle hp=>?_;refine bO.ku (X d) (Z d) (fo2 W Y d (X d) (Z d) b) (lC b) rfl (aT rfl) (c18 W Y X Z d hp hs) ?_
 rintro f w r ⟨b2,c2,ps,rfl,h1,C⟩
 refine bO.of (fq1 W Y f (X f) (Z f) d b b2 _ c2) (aT rfl) ?_;refine bO.ofM (m:=mOf (bG (.cells [.ptr (OLD+b) 0,.aM] 58 false false) OI (.cells [zP 1 0] 56 false false))) ?_ (λi A=>Nc A) rfl;refine R8 W Y X Z hI t.size t (ah _) f 0 2 1 3 0 b 0 [0] .aM [] [] [] [.ptr 1 0] false (some 1) _ _ (.inl ⟨rfl,rfl,rfl,rfl,rfl⟩) ⟨rfl,rfl,λi j h=>by simp at h,List.Pairwise.nil,λx hx=>hx⟩ (λl A=>by cases A) hG B rfl rfl (hp.mono r) rfl (.inr ⟨rfl,rfl,rfl,ah _⟩) (by decide) (by decide) (by decide) (by decide) (by decide) (by decide) (by unfold OLD;omega) (by omega) (by simp;omega) ?_;intro R ow SV L K σ i k F S' s g' m' N' p1 p2 p3 S p5 p6 p7 p8 p9 p10 p11 p12 H p14 I p16 p17 p18;have hL:L≠[]:=by
  intro h;rw[h]at S;have:=S.Wi;have U:=(aJ.1 p6).1;rw[this]at U;exact aP U (iq _)
 rcases p3 with⟨_,h,_⟩|⟨oq,J,cs,rfl,u,_,rfl,M,N,o,hsq⟩
 .exact aP h hL
 simp only[fJ,ay,aB,bn,not_or]at u;obtain⟨⟨d1,d2⟩,d3,_⟩:=u;have V:=I J (by simp);have O:N'<=OLD:=by unfold OLD at*;omega
 refine dA.BD (id:=oq) (i:=0) (j:=0) N (nU o.low) M (by omega) rfl ?_;intro n p q z _ P;have hs0:F≠0:=λe=>H (by rw[e];simp);obtain⟨θ,Q⟩:=Pm.of [0] [0] rfl (by decide) (by decide) (by decide) (by decide);have t0:θ.to 0=0:=by
  have h:[θ.to 0]=[0]:=Q;simpa using h
 have D:=fq9 W Y n (X n) (Z n) k (θ.inv J) σ.length none s p L.length q (θ.inv F);refine dA.Cw (θ:=θ) (N':=N') (l:=[(0,.cells [.aO (some (p,0)) L.length q] 30 false false)]) ⟨λe g=>?_,λe g=>?_,λe g hlv=>?_,λi h1 C=>?_,ah _,rfl,O,rfl,rfl⟩ D ⟨rfl,rfl,rfl⟩ ?_ ⟨⟨L,i,p2,⟨p,q,rfl⟩,⟨cs,.inl ⟨p,0,q,rfl,?_⟩,o.mono z⟩,?_,p5⟩,rfl⟩
 .have g:e∈[(0,AO.cells [.aO (some (p,0)) L.length q] 30 false false)]:=g
  simp only[ay,aB,bn]at g;subst g;rw[t0];simp only[dH];rw[aH trivial];rfl
 .have g:e∈[(0,AO.cells [.aO (some (p,0)) L.length q] 30 false false)]:=g
  simp only[ay,aB,bn]at g;subst g;rw[t0];simp
 .simp only[ay,aB,bn]at g
  subst g;exact⟨0,_,rfl,t0,rfl⟩
 .have h1:1<=i:=h1
  have C:i<1:=C;omega
 .show _=uP (.ptr (θ.to 0) 0) (.sl (θ.to (θ.inv J)) 0 σ.length none) (.sl (θ.to (θ.inv F)) 0 0 s) k
  rw[t0,θ.ri,θ.ri]
 .have:=know P
  rw[o.len]at this;exact this
 .simpa using p7
end
end
section
variable{L L':List LN}{b i j n:Nat}{v:AV}{y:LN}{σ:List Nat}
def pl(k:Nat):LN:=⟨[112],[su k],0,[]⟩
def Lk(m:Nat):List LN:=(List.range (min m 3)).map pl
theorem VK{a:Nat}(h:pl a=pl b):a=b:=by
 simp only[pl,su,LN.mk.injEq,dO,PV.mk.injEq,j6,true_and]at h;omega
theorem ac4{a:Nat}(h:a<b):mU (pl a) (pl b)<0:=by
 have h1:FK (pk a) (pk b)<0:=by
  rw[P7];unfold aL;rw[aH (by omega)];decide
 refine xJ.2 (.inl h1)
theorem YH(a:Nat)(ids:List Int):mU (pl a) ⟨[113],[su 1],1,ids⟩<0:=by
 refine xJ.2 (.inl (xJ.2 (.inl ?_)));show kN [112] [113]<0;decide
theorem Np(i:Nat):sI i= .node [112] [su (i % 3:Nat)] 0 []:=by
 unfold sI;rw[show(i:Int).tmod 3=((i % 3:Nat):Int)by rw[jl (by omega)];omega]
theorem Nn(h:yE L (sI i) L' j):X8 L (pl (i % 3)) L' j:=by
 rw[Np]at h;cases h with
 |node h1 a=>cases h1;exact a
theorem Yc(m:Nat):(Lk m).length=min m 3:=by simp[Lk]
theorem acz{m:Nat}(h:i<min m 3):(Lk m)[i]? =some (pl i):=by unfold Lk;rw[eu,List.getElem?_range h];rfl
theorem LQ{m:Nat}{x:LN}(h:x∈Lk m):∃i,i<min m 3∧x=pl i:=by
 obtain⟨i,hi,rfl⟩:=bP.1 h;exact⟨i,cZ.1 hi,rfl⟩
theorem acy{m:Nat}(h:m<3):pl (m % 3) ∉ Lk m:=λa=>by
 obtain⟨i,hi,e⟩:=LQ a;have:=VK e;omega
theorem Yb{m:Nat}(h:X8 (Lk m) (pl (m % 3)) L' j):L'=Lk (m+1)∧j=m % 3:=by
 by_cases a:m<3
 .rcases h with⟨_,h⟩|⟨_,rfl,rfl⟩
  .exact aP (bE h) (acy a)
  .refine⟨?_,by rw[Yc];omega⟩
   unfold Lk;rw[Nat.min_eq_left (by omega),Nat.min_eq_left (by omega),List.range_succ,jY,Nat.mod_eq_of_lt a];rfl
 .rcases h with⟨rfl,h⟩|⟨b,_,_⟩
  .have hj:j<min m 3:=by rw[← Yc];exact(aJ.1 h).1
   rw[acz hj]at h;have:=VK (aI h);refine⟨?_,this⟩;unfold Lk;rw[Nat.min_eq_right (by omega),Nat.min_eq_right (by omega)]
  .exact aP (bP.2 ⟨m % 3,cZ.2 (by omega),rfl⟩) b
theorem yZ:∀(r m:Nat) {c:List LN} {ids:List Nat},qj (Lk m) ((List.range' m r).map sI) c ids->c=Lk (m+r)∧ids=(List.range' m r).map (·% 3)
 |0,m,c,ids,h=>by cases h;exact⟨rfl,rfl⟩
 |r+1,m,c,ids,h=>by
  rw[oP,lW]at h;cases h with
  |cons a b=>
   obtain⟨rfl,rfl⟩:=Yb (Nn a);obtain⟨rfl,rfl⟩:=yZ r (m+1) b;exact⟨by rw[show m+1+r=m+(r+1)by omega],by rw[oP,lW]⟩
def QM(L:List LN)(y:LN):Prop:=∀x∈L,mU x y<0
theorem G9:∀(r m:Nat),OQ QM (Lk m) ((List.range' m r).map sI)
 |0,m=>trivial
 |r+1,m=>by
  rw[oP,lW];refine⟨?_,λa i h=>?_⟩
  .rw[Np]
   refine⟨trivial,λa ids h b=>?_⟩;cases h;intro x c;obtain⟨i,hi,rfl⟩:=LQ c;by_cases d:m<3
   .show mU (pl i) (pl (m % 3))<0
    exact ac4 (by omega)
   .exact aP (bP.2 ⟨m % 3,cZ.2 (by omega),rfl⟩) b
  .obtain⟨rfl,_⟩:=Yb (Nn h)
   exact G9 r (m+1)
theorem U7(n:Nat):UR QM [] (dB n):=by
 unfold dB;refine⟨?_,λb ids h _=>?_⟩
 .rw[List.range_eq_range'];exact G9 n 0
 .rw[List.range_eq_range']at h
  obtain⟨rfl,_⟩:=yZ n 0 h;intro x a;obtain⟨i,hi,rfl⟩:=LQ a;exact YH i _
theorem Td(c:3<=n)(h:yE [] (dB n) L i):L=UU n:=by
 unfold dB at h;cases h with
 |node h1 a=>
  rw[List.range_eq_range']at h1;obtain⟨rfl,rfl⟩:=yZ n 0 h1;rcases a with⟨_,h⟩|⟨_,rfl,_⟩
  .obtain⟨i,_,e⟩:=LQ (bE h)
   simp only[pl,LN.mk.injEq,dO,j6]at e;exact aP e.1 (by decide)
  .have b:Lk (0+n)=[pl 0,pl 1,pl 2]:=by unfold Lk;rw[Nat.min_eq_right (by omega)];rfl
   rw[b];unfold UU tu;rw[List.map_map,List.range_eq_range'];rfl
theorem LZ(n:Nat):(dB n).Yk:=by
 refine⟨by simp,?_⟩;rw[show(List.range n).map sI=(List.range n).map sI from rfl];generalize List.range n=l;induction l with
 |nil=>trivial
 |cons a l b=>exact⟨⟨by simp,trivial⟩,b⟩
theorem last_at{K:List LN}{k:Nat}(h:yh L σ K)(e:QM L y)(a:rQ K y k false):k=σ.length:=by
 have g:=a.le;have b:=h.len;rcases aZ k K.length with h1|h1
 .exfalso
  have c:K[k]? =some K[k]:=aK h1;have i:=a.hi k _ (ah _) c;have f:σ[k]? =some (σ[k]'(by omega)):=aK (by omega);have d:=(h.get k _ f).2;rw[c]at d;have:=e _ (bE d);omega
 .omega
section
variable(W:Fe)(Y:Ge)(X:∀old,Fw old)(Z:∀old,Gw old)
include W Y X Z
theorem c6w(old:Old)(g:wI old v (dB n))(h:3<=n)(o:n<=65535):dU prog E old 6 [v] (λold' w=>∃b c,w= .aO (some (b,0)) 4 c∧Dv old' w (UU n)):=by
 refine dU.mono (c6 W Y X Z old g (by rw[qo];omega) (LZ n) (U7 n) (λold L K σ y k d a j l m=>?_)) λold' w _ ⟨L,i,e1,⟨b,c,e2⟩,e,_,_⟩=>?_
 .have f:=d.Wi
  have h0:0<L.length:=bY.2 a;rw[last_at d l m];exact Y6 W Y X Z old (by omega) (by omega)
 .rw[Td h e1]at e2 e
  exact⟨b,c,e2,e⟩
end
end
section
variable(Y:Fe)(Z:Ge)
include Y Z
theorem un1(old:Old)(F:Fw old)(FF:Gw old)(l:Option (Nat×Nat))(n c:Nat)(p m:Int)(a:(decide (m<1))=false)(o2:(decide (m>65536))=true):DR old (ent (E.wo old) 12 [.aO l n c,zI p,zI m]) ⟨.e,0,0⟩ (.bV [wG,zI 1]) (aC pI):=
 prt F FF (Qb 10 a (Qb 2 o2 (Qn 21))) (by kernel_rfl)
theorem un3(old:Old)(F:Fw old)(FF:Gw old)(l:Option (Nat×Nat))(n c:Nat)(p m:Int)(a:(decide (m<1))=false)(o2:(decide (m>65536))=false)(b:(decide (p<0))=false)(d:(decide (p≥(↑n:Int)))=false)(f:(decide ((↑n:Int)>65536))=false):AtCall prog (E.wo old) [.n 10,.v (.bool false),.n 2,.v (.bool false),.n 3,.v (.bool false),.n 5,.v (.bool false),.n 8,.v (.bool false),.n 8] (ent (E.wo old) 12 [.aO l n c,zI p,zI m]) ⟨.e,0,0⟩ 35 [.aO l n c] (aC pI):=
 ⟨[some true=some true,some (AV.bool (decide (m<1)))=some (AV.bool false),some true=some true,some (AV.bool (decide (m>65536)))=some (AV.bool false),some true=some true,some (AV.bool (decide (p<0)))=some (AV.bool false),some true=some true,some (AV.bool (decide (p≥(↑n:Int))))=some (AV.bool false),some true=some true,some (AV.bool (decide ((↑n:Int)>65536)))=some (AV.bool false)],by kernel_rfl,⟨rfl,fZ (λz=>some (AV.bool z)) a,rfl,fZ (λz=>some (AV.bool z)) o2,rfl,fZ (λz=>some (AV.bool z)) b,rfl,fZ (λz=>some (AV.bool z)) d,rfl,fZ (λz=>some (AV.bool z)) f⟩⟩
theorem un5(old:Old)(F:Fw old)(FF:Gw old)(a:Old)(l:Option (Nat×Nat))(n c:Nat)(p m:Int)(b d:Nat)(x:Nat)(f:p=(↑x:Int))(lx:x<n)(sz:Int)(g:∀h:AH,loadT (E.wo old) h 3 (OLD+b) (0+x*1)=some (zI sz))(i:(decide (sz>m))=true):DR old (gX prog (E.wo a) [.n 10,.v (.bool false),.n 2,.v (.bool false),.n 3,.v (.bool false),.n 5,.v (.bool false),.n 8,.v (.bool false),.n 8] (ent (E.wo a) 12 [.aO l n c,zI p,zI m]) ⟨.e,0,0⟩ (ZW b n d)) (aC pI) (.bV [wG,zI 151]) (aC pI):=
 prt F FF (Qv 19 (gL (e:=3) (by kernel_rfl) (by kernel_rfl) rfl f lx:aR (E.wo old) 55 (l9 (E.wo old) (.aO (some (b,0)) n d)) (zI p)=some (zP (1152921504606846976+b) (0+x*1))) (Qv 0 (g (aC pI)) (Qb 1 i (Qn 10)))) (by kernel_rfl)
theorem un6(old:Old)(F:Fw old)(FF:Gw old)(a:Old)(l:Option (Nat×Nat))(n c:Nat)(p m:Int)(b d:Nat)(x:Nat)(f:p=(↑x:Int))(lx:x<n)(sz:Int)(g:∀h:AH,loadT (E.wo old) h 3 (OLD+b) (0+x*1)=some (zI sz))(i:(decide (sz>m))=false):AtCall prog (E.wo old) [.n 19,.v (zP (1152921504606846976+b) (0+x*1)),.v (zI sz),.n 1,.v (.bool false),.n 9] (gX prog (E.wo a) [.n 10,.v (.bool false),.n 2,.v (.bool false),.n 3,.v (.bool false),.n 5,.v (.bool false),.n 8,.v (.bool false),.n 8] (ent (E.wo a) 12 [.aO l n c,zI p,zI m]) ⟨.e,0,0⟩ (ZW b n d)) (aC pI) 36 [.aO l n c,zI p] (aC pI):=
 ⟨[some true=some true,aR (E.wo old) 55 (l9 (E.wo old) (.aO (some (b,0)) n d)) (zI p)=some (zP (1152921504606846976+b) (0+x*1)),some true=some true,loadT (E.wo old) (aC pI) 3 (1152921504606846976+b) (0+x*1)=some (zI sz),some true=some true,some (AV.bool (decide (sz>m)))=some (AV.bool false)],by kernel_rfl,⟨rfl,gL (e:=3) (by kernel_rfl) (by kernel_rfl) rfl f lx,rfl,g _,rfl,fZ (λz=>some (AV.bool z)) i⟩⟩
theorem un7(old:Old)(F:Fw old)(FF:Gw old)(a b:Old)(l:Option (Nat×Nat))(n c:Nat)(p m:Int)(j k x:Nat)(sz:Int)(rel:List UInt8)(d:Option (Nat×Nat))(f g:Nat)(rule:Int)(pk:Option (Nat×Nat))(h i:Nat):DR old (gX prog (E.wo b) [.n 19,.v (zP (1152921504606846976+j) (0+x*1)),.v (zI sz),.n 1,.v (.bool false),.n 9] (gX prog (E.wo a) [.n 10,.v (.bool false),.n 2,.v (.bool false),.n 3,.v (.bool false),.n 5,.v (.bool false),.n 8,.v (.bool false),.n 8] (ent (E.wo a) 12 [.aO l n c,zI p,zI m]) ⟨.e,0,0⟩ (ZW j n k)) (aC pI) (qX rel d f g rule pk h i)) (aC pI) (.bV [qX rel d f g rule pk h i,zI 0]) (aC (mg rel d f g rule pk h i)):=
 prt F FF (Qn 4) (by kernel_rfl)
end
section
variable{L:List LN}{Q:Old->AV->Prop}{cs:List AV}{lb lc lo n x:Nat}
noncomputable def zT:AV:= .agg [.str [],.aM,zI 0,.aM]
section
variable(W:Fe)(Y:Ge)(X:∀old,Fw old)(Z:∀old,Gw old)
include W Y X Z
theorem agJ(old:Old){l:Option (Nat×Nat)}{c:Nat}{p m:Int}(h:65536<m):dU prog E old 12 [.aO l n c,zI p,zI m] (λ_ v=>v= .bV [zT,zI 1]):=
 dU.KT (Z old) (by kernel_rfl) (bO.does (un1 W Y old (X old) (Z old) l n c p m (aD (by omega)) (aA (by omega))) (aT rfl) rfl (qh.low rfl rfl))
theorem c12{old:Old}{out:List Int}{sz:Int}(o:Aw old cs L)(p:iI old lb lo (L.length*4)=some cs)(K:L.length<=65536)(q:∀l∈L,l.kids.length<=268435456)
 (r:UW 0 L (List.replicate L.length 0)=some out)(s:out[x]? =some sz)(d:x<L.length){m:Int}(h0:0<m)(h1:m<=65536)
 (u:m<sz->∀old,Q old (.bV [zT,zI 151]))
 (w:sz<=m->∃t:T,(∀old',Old.le old old'->dU prog E old' 36 [.aO (some (lb,lo)) L.length lc,zI x] (λc v=>wI c v t))∧∀old' v,wI old' v t->Q old' (.bV [v,zI 0])):
 dU prog E old 12 [.aO (some (lb,lo)) L.length lc,zI x,zI m] Q:=by
 refine dU.KT (Z old) (by kernel_rfl) (bO.ku (X old) (Z old) (un3 W Y old (X old) (Z old) (some (lb,lo)) L.length lc x m (aD (by omega)) (aD (by omega)) (aD (by omega)) (aD (by omega)) (aD (by omega))) rfl rfl (aT rfl) (c35 W Y X Z (lc:=lc) o p (by omega) q) ?_);intro b v f g;unfold SzQ at g;rw[r]at g;obtain⟨e,i,rfl,y⟩:=g;have j:∀h:AH,loadT (E.wo b) h 3 (OLD+e) (0+x*1)=some (zI sz):=λh=>gB (by kernel_rfl) (by rw[bW];exact iY y (by rw[eu,s];rfl));by_cases z:m<sz
 .exact bO.does (un5 W Y b (X b) (Z b) old (some (lb,lo)) L.length lc x m e i x rfl d sz j (aA (by omega))) (aT rfl) rfl (qh.low rfl (u z b))
 .obtain⟨t,A,B⟩:=w (by omega)
  refine bO.ku (X b) (Z b) (un6 W Y b (X b) (Z b) old (some (lb,lo)) L.length lc x m e i x rfl d sz j (aD (by omega))) rfl rfl (aT rfl) (A b f) ?_
  rintro c v k ⟨C,rfl,n⟩
  obtain⟨a,D,F,ks,rfl,G,M,N⟩:=n.one;obtain⟨H,I,J,rfl⟩:=G.shape;exact bO.does (un7 W Y c (X c) (Z c) old b (some (lb,lo)) L.length lc x m e i x sz t.rel H I J t.rule D t.kids.length F) (aT rfl) rfl (qh.low rfl (B c _ ⟨_,rfl,n⟩))
end
end
theorem Sd(k:Int):OV (zI k) (zI k)=some true:=by
 show cond (xg .i64 .i64) (some (k==k)) none=_;rw[show(k==k)=true by simp];rfl
theorem Zv(s:List UInt8):OV (.str s) (.str s)=some true:=by
 show some (s==s)=_;rw[show(s==s)=true by simp]
theorem Zw(k m:Int)(s:List UInt8):AP [zI k,zI m,.str s] [zI k,zI m,.str s]=some true:=by
 unfold AP;rw[Sd];simp only;unfold AP;rw[Sd];simp only;unfold AP;rw[Zv];rfl
theorem abq(old:Old)(k m:Int)(s:List UInt8):Oc (E.wo old) .neq 94 (zF k m s) (zF k m s)=some (.bool false):=by
 have:Oc (E.wo old) .neq 94 (zF k m s) (zF k m s)=(AP [zI k,zI m,.str s] [zI k,zI m,.str s]).map λb=>AV.bool (!b):=by kernel_rfl
 rw[this,Zw];rfl
section
variable(Y:Fe)(Z:Ge)
include Y Z
section
variable(X:Old)(F:Fw X)(W:Gw X)
include X F W
theorem sm0(a b:Option (Nat×Nat))(n c d:Nat)(f:((↑n:Int)!=(↑n:Int))=false):DS X (ent (E.wo X) 135 [.aO a n c,.aO b n d]) ⟨.e,0,0⟩ (Ot (.aO b n d) (zI 0) (.aO a n c)) ⟨.e,0,0⟩:=
 jK F W [0,1,5] (Qb 11 f (Qn 10)) (by kernel_rfl)
theorem smx(a b:Option (Nat×Nat))(n c d:Nat)(i:Int)(f:(decide (i<(↑n:Int)))=false):DR X (Ot (.aO b n d) (zI i) (.aO a n c)) ⟨.e,0,0⟩ (.bool true) ⟨.e,0,0⟩:=
 prt F W (Qb 6 f (Qn 8)) (by kernel_rfl)
theorem sm1(d e1 f e2 n g j:Nat)(i:Int)(h0:0<=i)(h1:i<n)(k1 a:Int)(b:List UInt8)(k:∀h,loadT (E.wo X) h 94 (OLD+d) (e1+i.toNat*3)=some (zF k1 a b))(l:∀h,loadT (E.wo X) h 94 (OLD+f) (e2+i.toNat*3)=some (zF k1 a b))(m:(decide (i<(↑n:Int)))=true):DS X (Ot (.aO (some (f,e2)) n j) (zI i) (.aO (some (d,e1)) n g)) ⟨.e,0,0⟩ (Ot (.aO (some (f,e2)) n j) (zI (IntKind.i64.wrap (i+1))) (.aO (some (d,e1)) n g)) ⟨.e,0,0⟩:=
 jK F W [0,1,5] (Qb 6 m (Qd 6 [.c,.c,.v (zP (1152921504606846976+d) (e1+i.toNat*3)),.v (zF k1 a b),.c,.c,.v (zP (1152921504606846976+f) (e2+i.toNat*3)),.v (zF k1 a b),.v (.bool false)] (Qq (x23 X d e1 g h0 h1) (Qq (k ⟨.e,0,0⟩) (Qq (x23 X f e2 j h0 h1) (Qq (l ⟨.e,0,0⟩) (Qq (abq _ _ _ _:Oc (E.wo X) .neq 94 (zF k1 a b) (zF k1 a b)=some (.bool false)) (Qp (l ⟨.e,0,0⟩) (Qp (k ⟨.e,0,0⟩) (Qn 9)))))))))) (by kernel_rfl)
theorem sf(a b:Option (Nat×Nat))(n c d:Nat)(r:List UInt8)(f:RX X 135 [.aO a n c,.aO b n d] (.bool true))(g:(r==r)=true):DR X (ent (E.wo X) 77 [mK r a n c,mK r b n d]) ⟨.e,0,0⟩ (.bool true) (ji (lH r b n d) (lH r a n c)):=
 prt F W (Qb 12 g (Qk 5 (f (ji (lH r b n d) (lH r a n c)) (by kernel_rfl) rfl) (Qn 4))) (by kernel_rfl)
end
theorem afM(old:Old)(F:Fw old)(FF:Gw old)(a b:Option (Nat×Nat))(n c d:Nat)(r:List UInt8)(f:∀h,Nat.ble h.nx OLD=true->h.df=0->DC old 135 [.aO a n c,.aO b n d] h (.bool true) h)(g:(r==r)=true):DC old 77 [mK r a n c,mK r b n d] ⟨.e,0,0⟩ (.bool true) ⟨.e,0,0⟩:=
 DoesC.drop (DoesC.ent FF (by kernel_rfl) (sf Y Z old F FF a b n c d r f g)) [] (by kernel_rfl) (by kernel_rfl) (by kernel_rfl) rfl (by kernel_rfl) (by kernel_rfl) (by kernel_rfl)
end
section
variable{v:AV}
noncomputable def smF(a:Option (Nat×Nat))(b:Nat)(c:Option (Nat×Nat))(d n:Nat)(i:Int):AF:=(Ot (.aO c n d) (zI i) (.aO a n b))
section
variable(W:Fe)(Y:Ge){Z:Old}(F:Fw Z)(X:Gw Z)
include W Y F X
theorem QZ(c:Option (Nat×Nat))(a:Nat)(d:Option (Nat×Nat))(b n:Nat)(l:n<=268435456):∀(r:List PV) (i:Nat),Suf Z c i r->Suf Z d i r->n=i+r.length->mO prog (E.wo Z) (smF c a d b n (↑i:Int)) (.bool true)
 |[],i,e,f,h1=>mO.it (smx W Y Z F X c d n a b i (aD (by simp at h1;omega))) (by kernel_rfl) rfl
 |x::r,i,e,f,h1=>by
  obtain⟨g,e1,rfl,o,t1⟩:=e.next
  obtain⟨j,e2,rfl,p,t2⟩:=f.next
  simp at h1;have A1:=sm1 W Y Z F X g e1 j e2 n a b i (by omega) (by omega) x.k x.m x.s (λh=>by rw[bN];exact yN o h) (λh=>by rw[bN];exact yN p h) (aA (by omega));rw[QN (by omega)]at A1;exact mO.of A1 (QZ (some (g,e1)) a (some (j,e2)) b n l r (i+1) t1 t2 (by omega))
theorem agI{w:AV}{l:List PV}(e:iM Z v l)(f:iM Z w l)(g:l.length<=268435456):DC Z 135 [v,w] eH (.bool true) eH:=by
 obtain⟨a,c,rfl,h⟩:=e.suf;obtain⟨b,d,rfl,i⟩:=f.suf;exact DoesC.ofV X (by kernel_rfl) (mO.of (sm0 W Y Z F X a b l.length c d (by simp)) (QZ W Y F X a c b d l.length g l 0 h i (by omega))) rfl rfl
theorem agE{w:AV}{l:List PV}(rel:List UInt8)(e:iM Z v l)(f:iM Z w l)(g:l.length<=268435456):DC Z 77 [.agg [.str rel,v],.agg [.str rel,w]] eH (.bool true) eH:=by
 obtain⟨a,c,rfl,k⟩:=e.suf;obtain⟨b,d,rfl,m⟩:=f.suf;have i:∀h:AH,Nat.ble h.nx OLD=true->h.df=0->DC Z 135 [.aO a l.length c,.aO b l.length d] h (.bool true) h:=λh h1 j=>DoesC.ov (agI W Y F X e f g) rfl rfl j h1;exact afM W Y Z F X a b l.length c d rel i (by simp)
end
end
section
variable(Y:Fe)(Z:Ge)
include Y Z
section
variable(X:Old)(F:Fw X)(W:Gw X)
include X F W
theorem ss0(r:List UInt8)(u:Int)(a:Nat)(b c k1 h:Option (Nat×Nat))(d e f g i j:Nat)(l:Int)(k:RX X 77 [mK r b d e,mK r c f g] (.bool true))(m:(decide (IntKind.i64.wrap (l - 1)<0))=false)(o2:(u !=u)=false)(n:((↑a:Int)!=(↑a:Int))=false):DS X (ent (E.wo X) 37 [qX r b d e u k1 a i,qX r c f g u h a j,.ptr 0 0]) (aC (pJ l)) (Oq (zI 0) (zP 1 0) (zP 2 0) (zP 0 0)) (bG (mg r b d e u k1 a i) (.cells [zI (IntKind.i64.wrap (l - 1))] 3 false false) (mg r c f g u h a j)):=
 jK F W [2,3,4,7] (Qb 22 m (Qb 10 o2 (Qb 7 n (Qk 6 (k (bG (mg r b d e u k1 a i) (.cells [zI (IntKind.i64.wrap (l - 1))] 3 false false) (mg r c f g u h a j)) (by kernel_rfl) rfl) (Qn 12))))) (by kernel_rfl)
theorem ss1(r:List UInt8)(u:Int)(a:Nat)(j m:Option (Nat×Nat))(b e1 d e2 n o p q f g:Nat)(l l2 i:Int)(x:Nat)(y:i=(↑x:Int))(lx:x<a)(s t:List AV)(z:∀h:AH,loadT (E.wo X) h 28 (OLD+b) (e1+x*4)=some (.agg s))(A:∀h:AH,loadT (E.wo X) h 28 (OLD+d) (e2+x*4)=some (.agg t))(w:DC X 37 [.agg s,.agg t,.ptr 0 0] (bG (yH r j n o u b e1 a f) (pJ l) (yH r m p q u d e2 a g)) (.bool true) (bG (yH r j n o u b e1 a f) (pJ l2) (yH r m p q u d e2 a g)))(B:(decide (i<(↑a:Int)))=true):DS X (Oq (zI i) (.ptr 1 0) (.ptr 2 0) (.ptr 0 0)) (bG (yH r j n o u b e1 a f) (pJ l) (yH r m p q u d e2 a g)) (Oq (zI (IntKind.i64.wrap (i+1))) (zP 1 0) (zP 2 0) (zP 0 0)) (bG (yH r j n o u b e1 a f) (pJ l2) (yH r m p q u d e2 a g)):=
 jK F W [2,3,4,7] (Qb 7 B (Qd 6 [.c,.c,.c,.v (zP (1152921504606846976+b) (e1+x*4)),.v (.agg s),.c,.c,.c,.v (zP (1152921504606846976+d) (e2+x*4)),.v (.agg t),.c,.k (.bool true) (bG (yH r j n o u b e1 a f) (pJ l2) (yH r m p q u d e2 a g)),.c] (Qq (gL (e:=28) (by kernel_rfl) (by kernel_rfl) rfl y lx:aR (E.wo X) 26 (l9 (E.wo X) (.aO (some (b,e1)) a f)) (zI i)=some (zP (1152921504606846976+b) (e1+x*4))) (Qq (z (bG (yH r j n o u b e1 a f) (pJ l) (yH r m p q u d e2 a g))) (Qq (gL (e:=28) (by kernel_rfl) (by kernel_rfl) rfl y lx:aR (E.wo X) 26 (l9 (E.wo X) (.aO (some (d,e2)) a g)) (zI i)=some (zP (1152921504606846976+d) (e2+x*4))) (Qq (A (bG (yH r j n o u b e1 a f) (pJ l) (yH r m p q u d e2 a g))) (Qp w (Qp (A (bG (yH r j n o u b e1 a f) (pJ l) (yH r m p q u d e2 a g))) (Qs (.aO (some (d,e2)) a g) (Qp (z (bG (yH r j n o u b e1 a f) (pJ l) (yH r m p q u d e2 a g))) (Qs (.aO (some (b,e1)) a f) (Qn 14)))))))))))) (by kernel_rfl)
theorem ssx(r:List UInt8)(u:Int)(a:Nat)(b c k1 d:Option (Nat×Nat))(e f g h j k:Nat)(l i:Int)(m:(decide (i<(↑a:Int)))=false):DR X (Oq (zI i) (.ptr 1 0) (.ptr 2 0) (.ptr 0 0)) (bG (mg r b e f u k1 a j) (pJ l) (mg r c g h u d a k)) (.bool true) (bG (mg r b e f u k1 a j) (pJ l) (mg r c g h u d a k)):=
 prt F W (Qb 7 m (Qn 8)) (by kernel_rfl)
theorem sst(r1 r2:List UInt8)(u1 u2:Int)(a b k1 c:Option (Nat×Nat))(d f g h i j k l:Nat)(l2:Int)(m:DC X 37 [qX r1 a d f u1 k1 i j,qX r2 b g h u2 c k l,.ptr 2 0] (bG (mg r2 b g h u2 c k l) (mg r1 a d f u1 k1 i j) (.cells [zI 65537] 3 false false)) (.bool true) (bG (mg r2 b g h u2 c k l) (mg r1 a d f u1 k1 i j) (pJ l2))):DR X (ent (E.wo X) 14 [qX r1 a d f u1 k1 i j,qX r2 b g h u2 c k l]) ⟨.e,0,0⟩ (.bool true) (bG (mg r2 b g h u2 c k l) (mg r1 a d f u1 k1 i j) (pJ l2)):=
 prt F W (Qk 15 m (Qn 3)) (by kernel_rfl)
end
end
section
variable{v:AV}
theorem ab6{P:Program}{E:Env}{g:FuncId}{args:List AV}{o a p q:AO}{v:AV}(C:DoesC P E g args ⟨zL o,1,0⟩ v ⟨zL a,1,0⟩)(c:AV.dX 1 args=true)(d:fH 1 (zL o)=true):DoesC P E g args (bG p o q) v (bG p a q):=by
 have L:QE (λi=>i) ⟨zL o,1,0⟩ ⟨zL a,1,0⟩ (bG p o q) (bG p a q):=by
  refine⟨ah _,(by decide:1<=OLD),(by decide:3<=OLD),λi j _ _ h=>h,λi hi=>gZ hi (by show 1<=3;decide),λi h1 b=>?_,λi _=>rfl,ah _,λi o e _=>?_,λi o e _=>?_,λi o e _=>?_,λi o e _=>?_,rfl,rfl,d⟩
  .have h1:1<=i:=h1
   have b:i<1:=b;omega
  .obtain⟨rfl,_⟩:=pW e;exact jy
  .obtain⟨rfl,_⟩:=pW e;exact jy
  .obtain⟨rfl,rfl⟩:=pW e
   rw[AO.iO];rfl
  .by_cases h0:i=0
   .subst h0
    cases e;exact .inl ⟨0,_,rfl,rfl,(AO.iO _).symm⟩
   .refine .inr ⟨?_,λj f e2 _=>by obtain⟨rfl,_⟩:=pW e2;exact h0⟩
    show(zN (zL p) _ (zL q):Tr AO).get i=some o;have e:(zN (zL p) _ (zL q):Tr AO).get i=some o:=e;rw[Tr.jh,au h0]at e ⊢;exact e
 have:=DoesC.frame C L c;rw[AV.pQ,AV.iO]at this;exact this
theorem ab5{P:Program}{E:Env}{g:FuncId}{a b:AV}{o c p q:AO}{v:AV}(C:DoesC P E g [a,b,.ptr 0 0] ⟨zL o,1,0⟩ v ⟨zL c,1,0⟩)(f:a.low 0=true)(h:b.low 0=true)(m:v.low 0=true)(n:fH 1 (zL o)=true)(h1:o.ren (yG 2)=o)(d:c.ren (yG 2)=c):
 DoesC P E g [a,b,.ptr 2 0] (bG q p o) v (bG q p c):=by
 have L:QE (yG 2) ⟨zL o,1,0⟩ ⟨zL c,1,0⟩ (bG q p o) (bG q p c):=by
  refine⟨ah _,(by decide:1<=OLD),(by decide:3<=OLD),λi j hi hj _=>?_,λi hi=>?_,λi h1 d=>?_,λi hi=>qC hi,ah _,λi y e _=>?_,λi y e _=>?_,λi y e _=>?_,λi y e _=>?_,rfl,rfl,n⟩
  .have hi:i<1:=hi
   have hj:j<1:=hj;omega
  .have hi:i<1:=hi
   obtain rfl:i=0:=by omega
   exact(by decide:2<3)
  .have h1:1<=i:=h1
   have d:i<1:=d;omega
  .obtain⟨rfl,_⟩:=pW e;exact jy
  .obtain⟨rfl,_⟩:=pW e;exact jy
  .obtain⟨rfl,rfl⟩:=pW e
   rw[h1];rfl
  .by_cases h0:i=2
   .subst h0
    cases e;exact .inl ⟨0,_,rfl,rfl,d.symm⟩
   .refine .inr ⟨?_,λj r e2 _=>by obtain⟨rfl,_⟩:=pW e2;exact h0⟩
    have e:(zN (zL q) p (zL c):Tr AO).get i=some y:=e;show(zN (zL q) p (zL o):Tr AO).get i=some y;rw[Tr.jh]at e ⊢;by_cases k:i=0
    .rw[aH k]at e ⊢;exact e
    .rw[au k]at e ⊢
     by_cases l:i % 2=1
     .rw[aH l]at e ⊢;exact e
     .rw[au l]at e ⊢
      obtain⟨s,_⟩:=pW e;omega
 have:=DoesC.frame C L (by
  show(AV.low 1 a&&(AV.low 1 b&&true))=true;rw[AV.Ng f,AV.Ng h];rfl)
 rw[AV.uF (λi hi=>qC hi) m]at this;have e:AV.jC (yG 2) [a,b,.ptr 0 0]=[a,b,.ptr 2 0]:=by
  show[a.ren (yG 2),b.ren (yG 2),.ptr (yG 2 0) 0]=_;rw[AV.uF (λi hi=>qC hi) f,AV.uF (λi hi=>qC hi) h];rfl
 rw[e]at this;exact this
noncomputable def sF(i:Int):AF:=(Oq (zI i) (.ptr 1 0) (.ptr 2 0) (.ptr 0 0))
noncomputable def lB(l:Int):AO:= .cells [zI l] 3 false false
section
variable(W:Fe)(Y:Ge){Z:Old}(F:Fw Z)(X:Gw Z)
include W Y F X
theorem c37:∀(n:Nat) (t:T),t.size<=n->∀{e f:List AV} (l:Int),ny Z e [t]->ny Z f [t]->t.Yk->(t.size:Int)<=l->l<=65537->DC Z 37 [.agg e,.agg f,.ptr 0 0] ⟨zL (lB l),1,0⟩ (.bool true) ⟨zL (lB (l - t.size)),1,0⟩
 |0,t,h,_,_,_,_,_,_,_,_=>by have:=t.size_pos;omega
 |n+1,t,h,e,f,l,S,U,g,h1,h2=>by
  have hsz:=nG t;have V:=t.size_pos;have D:=S.xO;have G:=U.xO;obtain⟨a,H,i,ks,rfl,I,f2,f3⟩:=S.one;obtain⟨b,J,j,js,rfl,K,g2,g3⟩:=U.one;have L:=agE W Y F X t.rel I K g.kids.1;have hf1:=qI I;have hg1:=qI K;obtain⟨k,m,o,rfl⟩:=I.shape;obtain⟨s,v,w,rfl⟩:=K.shape;have hw:IntKind.i64.wrap (l - 1)=l - 1:=dW (by omega) (by omega);have A0:=ss0 W Y Z F X t.rel t.rule t.kids.length k s H J m o v w i j l (λh hn hd=>DoesC.ov L rfl rfl hd hn) (aD (by rw[hw];omega)) (by simp) (by simp);rw[hw]at A0;have loop:∀(r x:Nat) (l:Int),x+r=t.kids.length->(gP (t.kids.drop x):Int)<=l->l<=65537->∃h,DR Z (sF x) (bG (.cells [.str t.rel,.aO k m o,zI t.rule,.aO H t.kids.length i] 28 false false) (lB l) (.cells [.str t.rel,.aO s v w,zI t.rule,.aO J t.kids.length j] 28 false false)) (.bool true) h∧h.nx<=OLD∧h.df=0∧h.tr.get 0=some (lB (l - gP (t.kids.drop x))):=by
   intro r;induction r with
   |zero=>
    intro x l hx _ _;refine⟨_,ssx W Y Z F X t.rel t.rule t.kids.length k s H J m o v w i j l x (aD (by omega)),(by decide:3<=OLD),rfl,?_⟩;rw[List.drop_of_length_le (by omega),show l - (gP ([]:List T):Int)=l by show l - ((0:Nat):Int)=l;omega];rfl
   |succ r M=>
    intro x l hx N hl;have c:x<t.kids.length:=by omega
    obtain⟨u,A⟩:∃u,t.kids[x]? =some u:=⟨_,aK c⟩;have y:u∈t.kids:=bE A;have d:t.kids.drop x=u::t.kids.drop (x+1):=by
     obtain⟨e1,e2⟩:=aJ.1 A;rw[bL e1,e2]
    have z:gP (t.kids.drop x)=u.size+gP (t.kids.drop (x+1)):=by rw[d];rfl
    rw[z]at N;rcases f3 with⟨h0,_⟩|⟨q1,e1,rfl,RX⟩
    .rw[h0]at c;exact aP c (iq _)
    rcases g3 with⟨h0,_⟩|⟨q2,e2,rfl,O⟩
    .rw[h0]at c;exact aP c (iq _)
    obtain⟨e,p1,p2⟩:=f2.at RX A;obtain⟨f,r1,r2⟩:=g2.at O A;have C:=c37 n u (by have:=D5 y;omega) l p2 r2 (Ik g.kids.2 y) (by omega) hl;have C3:=ab6 (p:= .cells [.str t.rel,.aO k m o,zI t.rule,.aO (some (q1,e1)) t.kids.length i] 28 false false) (q:= .cells [.str t.rel,.aO s v w,zI t.rule,.aO (some (q2,e2)) t.kids.length j] 28 false false) C (by
     show(AV.dX 1 e&&(AV.dX 1 f&&true))=true;rw[AV.qK p2.xO,AV.qK r2.xO];rfl) rfl
    have A1:=ss1 W Y Z F X t.rel t.rule t.kids.length k s q1 e1 q2 e2 m o v w i j l (l - u.size) x x rfl c e f (rH (E:=E.wo Z) (by kernel_rfl) (by kernel_rfl) p1) (rH (E:=E.wo Z) (by kernel_rfl) (by kernel_rfl) r1) C3 (aA (by omega));rw[wrapN (by have:=wO t.kids;omega)]at A1;obtain⟨h',P,Q,R,B⟩:=M (x+1) (l - u.size) (by omega) (by omega) (by omega);refine⟨h',Does.of A1 P,Q,R,?_⟩;rw[B,z];congr 2;omega
  obtain⟨h',P,Q,R,B⟩:=loop t.kids.length 0 (l - 1) (by omega) (by rw[fP];omega) (by omega);rw[fP]at B;refine DoesC.VW X (by kernel_rfl) ⟨h',Does.of A0 P,Q,R,?_⟩ rfl rfl ?_ rfl
  .rw[B]
   congr 2;omega
  .show(AV.dX 1 _&&(AV.dX 1 _&&true))=true
   rw[AV.qK D,AV.qK G];rfl
end
section
variable(W:Fe)(Y:Ge)(X:∀old,Fw old)(Z:∀old,Gw old)
include W Y X Z
theorem c14(old:Old){w:AV}{t:T}(x:wI old v t)(y:wI old w t)(c:t.Yk)(D:t.size<=65536):dU prog E old 14 [v,w] (λ_ u=>u= .bool true):=by
 obtain⟨G,rfl,d⟩:=x;obtain⟨H,rfl,e⟩:=y;have f:=d.xO;have g:=e.xO;have C:=c37 W Y (X old) (Z old) t.size t (ah _) 65537 d e c (by omega) (by omega);obtain⟨a,h,i,ks,rfl,z,I,J⟩:=d.one;obtain⟨b,j,k,K,rfl,A,L,M⟩:=e.one;obtain⟨l,m,n,rfl⟩:=z.shape;obtain⟨o,r,s,rfl⟩:=A.shape;have B:=ab5 (q:= .cells [.str t.rel,.aO o r s,zI t.rule,.aO j t.kids.length k] 28 false false) (p:= .cells [.str t.rel,.aO l m n,zI t.rule,.aO h t.kids.length i] 28 false false) C f g rfl rfl rfl rfl;exact dU.KT (Z old) (by kernel_rfl) (bO.does (sst W Y old (X old) (Z old) t.rel t.rel t.rule t.rule l o h j m n r s t.kids.length i t.kids.length k _ B) (aT rfl) rfl (qh.low rfl rfl))
end
end
section
variable{P:Program}{Q1:Old->AV->Prop}{args:List AV}{f:AF}{g:FuncId}{h h1:AH}{ka kb pa pb:Option (Nat×Nat)}{kc kn lc ln:Nat}{rw:List UInt8}
theorem iU.ku{E:Env}{old:Old}{R:Old->AF->AH->Prop}(F:Fits P (E.wo old))(FF:dM P (E.wo old)){l:List Kk}(A:AtCall P (E.wo old) l f h g args h1)(b:AV.dX 0 args=true)(i:h1.df=0)(k:h1.nx<=OLD)
 (C:dU P E old g args Q1)(B:∀old' v,Old.le old old'->Q1 old' v->iU P E old' (gX P (E.wo old) l f h v) h1 R):iU P E old f h R:=by
 obtain⟨obs,e,H⟩:=A;unfold gX at B;cases hp:sj P (E.wo old) l f h with
 |none=>rw[hp]at e;cases e
 |some p=>
  obtain⟨m,h0,o⟩:=p;rw[hp]at e B;simp only at e B;cases c:iw (E.wo old) m h0 with
  |none=>rw[c]at e;cases e
  |some a=>
   rw[c]at e B;cases a with
   |call f' d g' j n=>
    simp only at e B;cases e;exact iU.of (path_ok F FF l f h hp H) (aQ (oz c:h0.nx<=h1.nx) k) λ_ _=>iU.Xi F FF c b i k C B
   |_=>cases e
theorem iU.sub{P:Program}{E:Env}{old:Old}{f:AF}{h h':AH}{R:Old->AF->AH->Prop}(ids:List Nat)(g:reach h.tr 100000 ids .e=h'.tr)(a:h'.nx=h.nx)(b:h'.df=h.df)(A:iU P E old f h' R):iU P E old f h R:=λK ι w fr cs k S l m=>by
 have c:∀i o,h'.tr.get i=some o->h.tr.get i=some o:=λi o e=>by
  rw[← g]at e;exact oH (t:=h.tr) 100000 ids .e (λi o e=>by rw[Tr.dN]at e;cases e) i o e
 have n:Sat K ι h' w:=⟨λi o e r=>S.objs i o (c i o e) r,λi j o d p q e1 e2=>S.inj i j o d p q (c i o e1) (c j d e2),S.lo,S.bs,S.old,S.os,S.tape,S.output,S.jU⟩;have:=A K ι w fr cs k n l (by rw[a];exact m);rw[a,b]at this;exact this
section
variable(W:Fe)(Y:Ge)(X:∀old,Fw old)(Z:∀old,Gw old)
include W Y X Z
theorem m12(old:Old)(c:List AV){d f g i:Option (Nat×Nat)}{j k l m mn o p q r a:Nat}{b:Int}:DC old 12 [.sl 5056 0 65537 (some 65537),zI 0,zI 1] (AZ (mg rw g p q b i r a) (.cells c 65 false false) (dh d l m f mn o) (dh pa j k ka kn kc)) (.bV [wG,zI 2]) (AZ (mg rw g p q b i r a) (.cells c 65 false false) (dh d l m f mn o) (dh pa j k ka kn kc)):=
 DoesC.pad (h:=⟨.e,5057,0⟩) (DoesC.nat (X old) (Z old) (n:=3000) [] (by kernel_rfl) rfl rfl (by kernel_rfl) (by kernel_rfl)) [] rfl rfl rfl rfl rfl rfl (by kernel_rfl)
theorem hVu(old:Old){c d a b:Nat}(e:wI old (o7 pb a b kb ln lc) (dB 65536)):DC old 10 [XZ,.aM,.kH,o7 pb a b kb ln lc] (Di (dh pb a b kb ln lc) (dh pa c d ka kn kc)) (zI 2) (Di (dh pb a b kb ln lc) (dh pa c d ka kn kc)):=
 agD W Y X Z old (θ:=TJ [(8,5043),(7,5042),(6,5041),(5,5040),(4,5039),(3,5037),(2,5035),(1,5034),(0,5033)]) (by kernel_rfl) (by kernel_rfl) (by kernel_rfl) (by kernel_rfl) (by kernel_rfl) (by kernel_rfl) rfl (by kernel_rfl) (by kernel_rfl) e rfl (by rw[qp,bH,gN];exact ah _) (by rw[qp,bH,gN];decide)
theorem hVt(old:Old){a b c d:Nat}(e:wI old (o7 pa a b ka kn kc) (dB 65535)):DC old 10 [XY,.aM,.kH,o7 pa a b ka kn kc] (Dh (dh pb c d kb ln lc) (dh pa a b ka kn kc)) (zI 152) (Dh (dh pb c d kb ln lc) (dh pa a b ka kn kc)):=
 agC W Y X Z old (θ:=TJ [(8,5053),(7,5052),(6,5051),(5,5050),(4,5049),(3,5047),(2,5045),(1,5044),(0,5043)]) (by kernel_rfl) (by kernel_rfl) (by kernel_rfl) (by kernel_rfl) (by kernel_rfl) (by kernel_rfl) (by kernel_rfl) (by kernel_rfl) rfl (by kernel_rfl) (by kernel_rfl) e rfl (by decide) (by decide)
end
end
section
variable{Q:Old->AV->Prop}{lb lc lo n x:Nat}{v:AV}
theorem U9(b:n<=65535):∀l∈UU n,l.args.length<=268435456∧l.kids.length<=1048576:=by
 intro l a;simp only[UU,ay,aB,bn]at a;rcases a with rfl|rfl|rfl|rfl
 .exact⟨by decide,by decide⟩
 .exact⟨by decide,by decide⟩
 .exact⟨by decide,by decide⟩
 .refine⟨by show 1<=268435456;decide,?_⟩
  show(List.map _ _).length<=_;rw[bH,gN];omega
theorem WV:∀l∈yB n,l.args.length<=268435456∧l.kids.length<=1048576:=by
 intro l a;obtain⟨i,_,rfl⟩:=bP.1 a;cases i with
 |zero=>exact⟨by show 1<=268435456;decide,by show 0<=1048576;decide⟩
 |succ i=>exact⟨by show 1<=268435456;decide,by show 2<=1048576;decide⟩
section
variable(W:Fe)(Y:Ge)(X:∀old,Fw old)(Z:∀old,Gw old)
include W Y X Z
theorem Ve{old:Old}(g:Dv old (.aO (some (lb,lo)) 4 lc) (UU 65535)){m:Int}(h0:0<m)(h1:m<=65536)(i:m<65536->∀old,Q old (.bV [zT,zI 151]))(j:65536<=m->∀old' v,wI old' v (dB 65535)->Q old' (.bV [v,zI 0])):
 dU prog E old 12 [.aO (some (lb,lo)) 4 lc,zI 3,zI m] Q:=by
 obtain⟨cs,k,a⟩:=g;have f:iI old lb lo ((UU 65535).length*4)=some cs:=by
  rcases k with⟨b,o,c,e,f⟩|⟨e,_⟩
  .cases e;exact f
  .cases e
 have p:=U8 (n:=65535) (ah _);exact c12 W Y X Z (lc:=lc) (x:=3) (sz:=65536) a f (by show 4<=65536;decide) (λl h=>aQ (U9 (ah _) l h).2 (by decide)) p (by rfl) (by show 3<4;decide) h0 h1 i λq=>⟨dB 65535,λold' d=>by
  have:=c36 W Y X Z (lc:=lc) (fu:=2) (x:=3) (a.mono d) (mE d f) (U9 (ah _)) (U6 65535) (by rw[LW,qo];decide);rw[LW]at this;exact this,j q⟩
theorem acI{old:Old}(j:Dv old v (yB 64)){sz:Int}{out:List Int}(k:UW 0 (yB 64) (List.replicate 64 0)=some out)(n:out[x]? =some sz)(a:x<64){m:Int}(h0:0<m)(h1:m<=65536)(p:m<sz->∀old,Q old (.bV [zT,zI 151]))(f:sz<=m->(qA (yB 64) (x+1) x).size<=268435456∧∀old' v,wI old' v (qA (yB 64) (x+1) x)->Q old' (.bV [v,zI 0])):
 dU prog E old 12 [v,zI x,zI m] Q:=by
 obtain⟨cs,q,d⟩:=j;rcases q with⟨b,o,c,rfl,g⟩|⟨_,h,_⟩
 .exact c12 W Y X Z (lc:=c) d g (by show 64<=65536;decide) (λl h=>aQ (WV l h).2 (by decide)) k n a h0 h1 p λi=>⟨qA (yB 64) (x+1) x,λold' e=>c36 W Y X Z (lc:=c) (fu:=x+1) (x:=x) (d.mono e) (mE e g) WV (WU x a) (f i).1,(f i).2⟩
 .cases h
end
end
section
variable{P:Program}{f:AF}{h:AH}{old':Old}{v:AV}
theorem Ub{E:Env}{old:Old}(e:iw (E.wo old) f h=some (.ret v h))(e1:f.ret=true)(e2:f.ds=[])(a:f.x.deferred=false)(b:h.df=0)(c:P.inits.idxOf? f.x.fn=none):iU P E old f h (Last P E v):=iU.here ⟨⟨h,e⟩,e1,e2,a,b,c⟩
theorem wI.explode{old:Old}{t:T}(h:wI old v t):∃b c d e f,v= .agg [.str t.rel,.aO b c d,zI t.rule,.aO e t.kids.length f]:=by
 obtain⟨cs,rfl,h⟩:=h;obtain⟨a,e,f,ks,rfl,g,i,j⟩:=h.one;obtain⟨b,c,d,rfl⟩:=g.shape;exact⟨b,c,d,e,f,rfl⟩
theorem wI.mono'{old:Old}(a:Old.le old old'){t:T}(h:wI old v t):wI old' v t:=by
 obtain⟨cs,rfl,h⟩:=h;exact⟨cs,rfl,h.mono a⟩
theorem Dv.explode{old:Old}{l:List LN}(h:Dv old v l):∃p n c,v= .aO p n c:=by
 obtain⟨cs,a,_⟩:=h;rcases a with⟨b,o,c,rfl,_⟩|⟨rfl,_⟩
 .exact⟨_,_,_,rfl⟩
 .exact⟨_,_,_,rfl⟩
theorem Dv.mono'{old:Old}(a:Old.le old old'){l:List LN}(h:Dv old v l):Dv old' v l:=by
 obtain⟨cs,h1,b⟩:=h;exact⟨cs,vv.mono a h1,b.mono a⟩
section
variable(W:Fe)(Y:Ge)(X:∀old,Fw old)(Z:∀old,Gw old)
include W Y X Z
theorem gr_head(old:Old):iU prog E old (XJ:AF) ⟨.e,5030,0⟩ (Last prog E (.bool true)):=by
 refine iU.ku (X old) (Z old) (ha1 W Y old (X old) (Z old)) rfl rfl (aT rfl) (c5 W Y X Z old (n:=65535) (by decide)) ?_;intro d v1 l1 hT;obtain⟨k,l,p,q,r,rfl⟩:=hT.explode;have hk65:(dB 65535).kids.length=65535:=by rw[qp,bH,gN]
 refine iU.of (hs1 W Y d (X d) (Z d) old k q l p (dB 65535).kids.length r) (aT rfl) λ_ _=>?_;refine iU.ku (X d) (Z d) (ha2 W Y d (X d) (Z d) k q l p (dB 65535).kids.length r) rfl rfl (aT rfl) (c5 W Y X Z d (n:=65536) (by decide)) ?_;intro f v2 l2 hU;obtain⟨pb,F,G,H,lc,rfl⟩:=hU.explode;refine iU.of (hs2 W Y f (X f) (Z f) d k q l p (dB 65535).kids.length r pb H F G (dB 65536).kids.length lc) (aT rfl) λ_ _=>?_;have I:=wI.mono' l2 hT;refine iU.ku (X f) (Z f) (ha3 W Y f (X f) (Z f) k q l p (dB 65535).kids.length r pb H F G (dB 65536).kids.length lc) rfl rfl (aT rfl) (c6w W Y X Z f I (by decide) (by decide)) ?_
 rintro b v3 l3 ⟨t,ld,rfl,hL⟩
 refine iU.of (hs3 W Y b (X b) (Z b) f k q l p (dB 65535).kids.length r pb H F G (dB 65536).kids.length lc t ld) (aT rfl) λ_ _=>?_;have u:=wI.mono' l3 I;have P:=wI.mono' l3 hU;refine iU.ku (X b) (Z b) (ha4 W Y b (X b) (Z b) k q l p (dB 65535).kids.length r pb H F G (dB 65536).kids.length lc t ld (DoesC.Rt (c7w W Y X Z b u (by decide)) rfl rfl) (DoesC.Rt (c8w W Y X Z b u (by decide)) rfl rfl)) rfl rfl (aT rfl) (c9w W Y X Z b u (by decide) (by decide)) ?_
 rintro a v4 R ⟨ap,ac,rfl⟩
 have J:=wI.mono' R u;have s:=wI.mono' R P;have x:65536<=(dB 65536).kids.length:=by rw[qp,bH,gN];exact ah _
 have y:(dB 65536).kids.length<=268435456:=by rw[qp,bH,gN];decide
 refine iU.of (hs4 W Y a (X a) (Z a) b k q l p (dB 65535).kids.length r pb H F G (dB 65536).kids.length lc t ld ap ac (DoesC.Rt (c7x W Y X Z a s x y) rfl rfl) (DoesC.Rt (c8x W Y X Z a s x y) rfl rfl) (DoesC.Rt (c9x W Y X Z a s x y) rfl rfl) (DoesC.Rt (c6x W Y X Z a s x y) rfl rfl) (hVu W Y X Z a s) (hVt W Y X Z a J)) (aT rfl) λ_ _=>?_;refine iU.sub (h':=(Oj (.cells [.str [113],.aO k l p,zI 1,.aO q (dB 65535).kids.length r] 28 false false))) [5030] (by kernel_rfl) rfl rfl ?_;have K:=Dv.mono' R hL;refine iU.ku (X a) (Z a) (ha5 W Y a (X a) (Z a) k q l p (dB 65535).kids.length r t ld) rfl rfl (aT rfl) (Ve W Y X Z K (m:=65536) (by decide) (by decide) (Q:=λo w=>∃v,w= .bV [v,zI 0]∧wI o v (dB 65535)) (λh=>aP h (by decide)) λ_ o v h=>⟨v,rfl,h⟩) ?_
 rintro g v5 l5 ⟨v5,rfl,hV⟩
 obtain⟨z,A,B,C,D,rfl⟩:=hV.explode;have S:=Dv.mono' l5 K;have L:=J;have T:=wI.mono' l5 L;refine iU.of (hs5 W Y g (X g) (Z g) a k q l p (dB 65535).kids.length r t ld z C A B (dB 65535).kids.length D (DoesC.Rt (Ve W Y X Z S (m:=65535) (by decide) (by decide) (Q:=λ_ w=>w= .bV [wG,zI 151]) (λ_ _=>rfl) λh=>aP h (by decide)) rfl rfl)) (aT rfl) λ_ _=>?_;refine iU.sub (h':=(Ip (.cells [.str [113],.aO z A B,zI 1,.aO C (dB 65535).kids.length D] 28 false false) (.cells [.str [113],.aO k l p,zI 1,.aO q (dB 65535).kids.length r] 28 false false))) [5030,5052] (by kernel_rfl) rfl rfl ?_;refine iU.ku (X g) (Z g) (ha6 W Y g (X g) (Z g) k q l p (dB 65535).kids.length r t ld z C A B (dB 65535).kids.length D) rfl rfl (aT rfl) (c13 W Y X Z g (n:=64) (by decide) (by decide)) ?_;intro c v6 l6 hD;obtain⟨dp,dn,dc,rfl⟩:=hD.explode;have U:∃out:List Int,UW 0 (yB 64) (List.replicate 64 0)=some out∧out[63]? =some 65537∧out[15]? =some 65535:=by
  obtain⟨out,h1,h2⟩:=aN.1 WT;obtain⟨h3,h4⟩:=iH h2;exact⟨out,h1,h3,h4⟩
 obtain⟨out,so,V,s15⟩:=U;refine iU.of (hs6 W Y c (X c) (Z c) g k q l p (dB 65535).kids.length r t ld z C A B (dB 65535).kids.length D dp dn dc (DoesC.Rt (acI W Y X Z hD so V (by decide) (m:=65536) (by decide) (by decide) (Q:=λ_ w=>w= .bV [wG,zI 151]) (λ_ _=>rfl) λh=>aP h (by decide)) rfl rfl)) (aT rfl) λ_ _=>?_;refine iU.sub (h':=(Dg (.cells [.str [113],.aO z A B,zI 1,.aO C (dB 65535).kids.length D] 28 false false) (.cells [.str [113],.aO k l p,zI 1,.aO q (dB 65535).kids.length r] 28 false false))) [5030,5052] (by kernel_rfl) rfl rfl ?_;refine iU.ku (X c) (Z c) (ha7 W Y c (X c) (Z c) k q l p (dB 65535).kids.length r t ld z C A B (dB 65535).kids.length D) rfl rfl (aT rfl) (c13 W Y X Z c (n:=64) (by decide) (by decide)) ?_;intro j v7 l7 M;obtain⟨dq,dm,dd,rfl⟩:=M.explode;refine iU.ku (X j) (Z j) (ha8 W Y j (X j) (Z j) c k q l p (dB 65535).kids.length r t ld z C A B (dB 65535).kids.length D dq dm dd) rfl rfl (aT rfl) (acI W Y X Z M so s15 (by decide) (m:=65535) (by decide) (by decide) (Q:=λo w=>∃v,w= .bV [v,zI 0]∧wI o v (qA (yB 64) 16 15)) (λh=>aP h (by decide)) λ_=>⟨by rw[EG];decide,λo v h=>⟨v,rfl,h⟩⟩) ?_
 rintro i v8 l8 ⟨v8,rfl,hW⟩
 obtain⟨pw,nw,cw,kw,mcw,rfl⟩:=hW.explode;have N:=Old.le_trans l6 (Old.le_trans l7 l8);have O:=c7 W Y X Z i hW (by rw[EG];decide);rw[EG]at O;refine iU.of (hs8 W Y i (X i) (Z i) c j k q l p (dB 65535).kids.length r t ld z C A B (dB 65535).kids.length D dq dm dd (qA (yB 64) 16 15).rel (qA (yB 64) 16 15).rule pw kw nw cw (qA (yB 64) 16 15).kids.length mcw (DoesC.Rt (agJ W Y X Z i (by decide)) rfl rfl) (DoesC.Rt (c14 W Y X Z i (wI.mono' N hV) (wI.mono' N T) (LZ 65535) (by rw[qo];decide)) rfl rfl) (DoesC.Rt O rfl rfl) (rep 65537 [.str [],.aM,zI 0,.aM]) (by kernel_rfl) (m12 W Y X Z i _)) (aT rfl) λ_ _=>Ub (by kernel_rfl) rfl rfl rfl rfl (by kernel_rfl)
end
end
section
variable(F0:Fe)(Z:Ge)
theorem gd0(F:Fe)(FF:Ge):DoesS prog E (ent E 3 []) (⟨.e,0,0⟩) ⟨⟨3,false,none,150⟩,zL (.bool false),[.code (dY f3 [1,0]),.code (dY f3 [1,1])],[],false⟩ ⟨.e,0,0⟩:=
 KM F FF (obs:=[]) [.n 5] (by kernel_rfl) trivial
end
end Go.Ev
