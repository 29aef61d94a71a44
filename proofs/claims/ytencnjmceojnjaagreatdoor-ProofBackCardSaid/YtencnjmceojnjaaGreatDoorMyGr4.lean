/- A part of the proof that ProofBack returns true. -/
import Derived.Test.YtencnjmceojnjaaGreatDoorMyGr3
import Derived.Test.YtencnjmceojnjaaGreatDoorMyGr2
import Derived.Test.YtencnjmceojnjaaGreatDoorMyGr1
import Derived.Test.YtencnjmceojnjaaGreatDoorMyEv4
import Derived.Test.YtencnjmceojnjaaGreatDoorMyEv5
set_option linter.all false
namespace Go.Ev
open Go.Proofs Go.Proofs.Tryz
set_option maxRecDepth 100000
section
variable{L:List LN}{cs:List AV}{lb lc lo:Nat}
noncomputable def zT:AV:= .agg [.str [],.aQ,zI 0,.aQ]
section
variable(W:Fe)(Y:Ge)(X:∀old,Fw old)(Z:∀old,Gw old)
include W Y X Z
theorem c12{old:Old}{x:Nat}{out:List Int}{sz:Int}(p:xR old cs L)(q:iI old lb lo (L.length*4)=some cs)(J:L.length<=65536)(r:∀l∈L,l.kids.length<=268435456)
 (s:szO 0 L (List.replicate L.length 0)=some out)(u:out[x]? =some sz)(e:x<L.length){m:Int}(h0:0<m)(h1:m<=65536){Q:Old->AV->Prop}
 (w:m<sz->∀old,Q old (.gI [zT,zI 151]))
 (y:sz<=m->∃t:T,(∀d,Old.le old d->jV prog E d 28 [.aO (some (lb,lo)) L.length lc,zI x] (λc v=>JO c v t))∧∀d v,JO d v t->Q d (.gI [v,zI 0])):
 jV prog E old 9 [.aO (some (lb,lo)) L.length lc,zI x,zI m] Q:=by
 refine jV.ofR (Z old) (by kernel_rfl) (fU.yS (X old) (Z old) (un3 W Y old (X old) (Z old) (some (lb,lo)) L.length lc x m (aH (by omega)) (aH (by omega)) (aH (by omega)) (aH (by omega)) (aH (by omega))) rfl rfl (dF rfl) (c35 W Y X Z (lc:=lc) p q (by omega) r) ?_);intro b v g i;unfold SzQ at i;rw[s]at i;obtain⟨f,j,rfl,z⟩:=i;have k:∀h:AH,loadT (E.wo b) h 3 (OLD+f) (0+x*1)=some (zI sz):=λh=>kT (by kernel_rfl) (by rw[bJ];exact pK z (by rw[fP,u];rfl));by_cases A:m<sz
 .exact fU.does (un5 W Y b (X b) (Z b) old (some (lb,lo)) L.length lc x m f j x rfl e sz k (aB (by omega))) (dF rfl) rfl (CO.low rfl (w A b))
 .obtain⟨t,B,g2⟩:=y (by omega)
  refine fU.yS (X b) (Z b) (un6 W Y b (X b) (Z b) old (some (lb,lo)) L.length lc x m f j x rfl e sz k (aH (by omega))) rfl rfl (dF rfl) (B b g) ?_
  rintro c v n ⟨C,rfl,o⟩
  obtain⟨a,D,kc,ks,rfl,F,K,M⟩:=o.one;obtain⟨G,H,I,rfl⟩:=F.shape;exact fU.does (un7 W Y c (X c) (Z c) old b (some (lb,lo)) L.length lc x m f j x sz t.rel G H I t.rule D t.kids.length kc) (dF rfl) rfl (CO.low rfl (g2 c _ ⟨_,rfl,o⟩))
end
end
section
variable{L:List LN}{N:Nat}{R:qC}{SV:AV}{m:Mm}{ow σ:List Nat}
def MX(old:Old)(m:Mm)(ob:Nat)(c:List Nat)(d:AV)(L:List LN)(σ:List Nat):Prop:=
 (c=[ob]∧L=[]∧σ=[]∧d= .aQ∧m ob= .cells [.aQ] 31 false false)∨
 (∃a b cs,c=[ob,a,b]∧[ob,a,b].Nodup∧L≠[]∧d= .sl b 0 σ.length none∧m ob= .cells [.sl a 0 L.length none] 31 false false∧m a= .cells cs 65 true false∧xR old cs L∧m b= .cells (nums σ) 3 true false)
theorem MX.mono{old i:Old}{m n:Mm}{ob:Nat}{k:List Nat}{o:AV}{L:List LN}{σ:List Nat}(h:MX old m ob k o L σ)(l:Old.le old i)(j:∀z∈k,n z=m z):MX i n ob k o L σ:=by
 rcases h with⟨rfl,a,b,c,d⟩|⟨p,q,cs,rfl,a,b,c,d,e,f,g⟩
 .exact .inl ⟨rfl,a,b,c,by rw[j _ (by simp)];exact d⟩
 .exact .inr ⟨p,q,cs,rfl,a,b,c,by rw[j _ (by simp)];exact d,by rw[j _ (by simp)];exact e,f.mono l,by rw[j _ (by simp)];exact g⟩
def UG(L:List LN):Prop:=∀l∈L,l.args.length<=268435456∧l.kids.length<=268435456
section
variable(W:Fe)(Y:Ge)(X:∀old,Fw old)(Z:∀old,Gw old)
include W Y X Z
theorem agm{old:Old}{ob y:Nat}{st:AV}{c:List AV}{x:LN}{K:List LN}(hO:MX old m ob ow SV L σ)(o:A8 L σ K)(P:UG L)(hn:L.length<=134217000)(M:m y= .cells c 65 false false)(l:vg old c x)(p:y ∉ ow)(Q:y<N)(f:∀z∈ow,z<N)(A:N+13<=OLD)(hI:∀k b,vN K x k false->L≠[]->V4 b σ k)
 (B':∀b q B S r K' (i k:Nat) t N',Old.le old b->abN L x S i->MX b t ob q B S r->A8 S r K'->r[k]? =some i->(∀z∈q,z∈ow∨N<=z)->(∀z∈q,z<N')->N<=N'->N'<=N+13->(∀j,j<N->j ∉ ow->t j=m j)->dL prog E b (xq (.ptr ob 0) B st k) t N' R):
 dL prog E old (BK (.ptr ob 0) SV st (.ptr y 0)) m N R:=by
 rcases hO with⟨rfl,rfl,rfl,rfl,n⟩|⟨v,s,cs,rfl,hd,C,rfl,n,D,T,F⟩
 .have hK:K=[]:=bM.1 (by rw[← o.len];rfl)
  subst hK;refine acW W Y X Z n M l (λe=>p (by rw[e];simp)) (f ob (by simp)) Q A ?_;intro b v s t h1 h2 O h4 h5 h6 U V h9 h10;have hob':=f ob (by simp);refine B' b [ob,v,s] (.sl s 0 1 none) [x] [0] [x] 0 0 t (N+13) h1 (.inr ⟨by simp,rfl,rfl⟩) (.inr ⟨v,s,c,rfl,?_,by simp,rfl,U,V,?_,h9⟩) ?_ rfl ?_ ?_ (by omega) (by omega) (λj h11 h12=>h10 j h11 (λe=>h12 (by rw[e];simp)))
  .simp;omega
  .obtain⟨a,k,rfl,g1,g2⟩:=l.mono h1
   exact .cons g1 g2 .nil
  .exact⟨rfl,rfl,λi j h=>by
    cases i with
    |zero=>cases h;exact⟨by simp,rfl⟩
    |succ i=>simp at h,zK _ _,λy M=>M⟩
  .intro z d
   simp only[ay,av,aU]at d;rcases d with rfl|rfl|rfl
   .exact .inl (by simp)
   .exact .inr h2
   .exact .inr h4
  .intro z d
   simp only[ay,av,aU]at d;rcases d with rfl|rfl|rfl<;>omega
 .have G:=hd
  simp only[dK,ay,av,aU,not_or]at G p;obtain⟨⟨d1,d2⟩,d3,_⟩:=G;obtain⟨y1,y2,y3⟩:=p;have hobN:=f ob (by simp);have hoqN:=f v (by simp);have hsqN:=f s (by simp);refine acV W Y X Z n D F T o P hn M l ?_ ?_ A (λk b _ u=>hI k b u C) ?_ ?_
  .simp only[dK,ay,av,aU,not_or]
   exact⟨⟨Ne.symm y1,d1,d2⟩,⟨y2,y3⟩,d3,by simp⟩
  .intro z d
   simp only[ay,av,aU]at d;rcases d with rfl|rfl|rfl|rfl<;>omega
  .intro b k g u
   obtain⟨j,j1,w⟩:=o.found u;exact B' b [ob,v,s] _ L σ K j k m N g (.inl ⟨rfl,w⟩) (.inr ⟨v,s,cs,rfl,hd,C,rfl,n,D,T.mono g,F⟩) o j1 (λz d=> .inl d) f (aj _) (by omega) (λ_ _ _=>rfl)
  .intro b k H I t g u h1 h2 O h4 h5 h6 U V h9
   have hkl:k<=σ.length:=by rw[o.len];exact u.le
   have J:(σ.take k++L.length::σ.drop k).length=σ.length+1:=by simp;omega
   refine B' b [ob,H,I] _ (L++[x]) (σ.take k++L.length::σ.drop k) (K.take k++x::K.drop k) L.length k t (N+13) g (.inr ⟨o.not u,rfl,rfl⟩) (.inr ⟨H,I,cs++c,rfl,?_,by simp,by rw[J],by rw[h6];simp,U,?_,V⟩) (o.ins u) ?_ ?_ ?_ (by omega) (by omega) ?_
   .simp only[dK,ay,av,aU,not_or]
    exact⟨⟨by omega,by omega⟩,h5,by simp⟩
   .obtain⟨a,k,rfl,g1,g2⟩:=l.mono g
    exact(T.mono g).app (.cons g1 g2 .nil)
   .rw[bD (by rw[eG];omega),eG,show k - min k σ.length=0 by omega];rfl
   .intro z d
    simp only[ay,av,aU]at d;rcases d with rfl|rfl|rfl
    .exact .inl (by simp)
    .exact .inr h1
    .rcases O with rfl|O
     .exact .inl (by simp)
     .exact .inr O
   .intro z d
    simp only[ay,av,aU]at d;rcases d with rfl|rfl|rfl<;>omega
   .intro j j1 w
    simp only[ay,av,aU,not_or]at w;exact h9 j j1 w.1 w.2.1 w.2.2
end
end
section
variable{L L':List LN}{i:Nat}{ids:List Nat}
def abR(G:List LN->LN->Prop)(t:T):Prop:=∀(old:Old) (w s x N ob h to:Nat) (d:List Nat) (l:AV) (L K:List LN) (σ:List Nat) (S:List AV) (g:Bool) (n:Option Nat) (m:Mm) (R:qC),
 MX old m ob d l L σ->A8 L σ K->UG L->Ze G L t->t.aok->
 m s= .cells S 57 g false->m x= .cells [.ptr (OLD+h) to,.aQ] 59 false false->CJ old (.ptr (OLD+h) to) t->S[w]? =some (.ptr x 0)->Jl n g S (w+1)->
 s≠x->s ∉ d->x ∉ d->s<N->x<N->(∀z∈d,z<N)->N+21*t.size<=OLD+6->w+t.size<=134217000->L.length+t.size<=134217000->
 (∀a b e f o c (i k:Nat) s' S' cp' g' m' N',Old.le old a->xW L t f i->MX a m' ob b e f c->A8 f c o->UG f->c[k]? =some i->f.length<=L.length+t.size->
  m' s'= .cells S' 57 g' false->Jl cp' g' S' w->(∀i,i<w->S'[i]? =S[i]?)->(s'=s∨N<=s')->s'<N'->s' ∉ b->(∀z∈b,z∈d∨N<=z)->(∀z∈b,z<N')->N<=N'->N'+6<=N+21*t.size->(∀j,j<N->j ∉ d->j≠s->j≠x->m' j=m j)->
  dL prog E a (xq (.ptr ob 0) e (.sl s' 0 w cp') k) m' N' R)->
 dL prog E old (LZ (.ptr ob 0) l (.sl s 0 (w+1) n)) m N R
theorem CW:∀{ts:List T} {t:T},t∈ts->t.size<=eX ts
 |[],t,h=>by cases h
 |u::ts,t,h=>by
  show t.size<=u.size+eX ts;rcases ay.1 h with rfl|h
  .omega
  .have:=CW h;omega
theorem Ze.kids{G:List LN->LN->Prop}{L:List LN}:∀{t:T},Ze G L t->UL G L t.kids∧∀L1 ids,oW L t.kids L1 ids->⟨t.rel,t.args,t.rule,lU ids⟩ ∉ L1->G L1 ⟨t.rel,t.args,t.rule,lU ids⟩
 | .node _ _ _ _,h=>h
theorem T.aok.kids:∀{t:T},t.aok->t.args.length<=268435456∧abA t.kids
 | .node _ _ _ _,h=>h
theorem xW.of{L1:List LN}:∀{t:T},oW L t.kids L1 ids->abN L1 ⟨t.rel,t.args,t.rule,lU ids⟩ L' i->xW L t L' i
 | .node _ _ _ _,h,h'=> .node h h'
theorem Dy(l:List Nat):(lU l).length=l.length:=dZ _
section
variable(W:Fe)(Y:Ge)(X:∀old,Fw old)(Z:∀old,Gw old)
include W Y X Z
theorem adV{G:List LN->LN->Prop}(hI:∀old L K σ y k,A8 L σ K->L≠[]->L.length<=134217000->G L y->vN K y k false->V4 old σ k){t:T}(ih:∀u∈t.kids,abR G u)(M:t.aok){L0:List LN}(hG:∀L1 ids,oW L0 t.kids L1 ids->⟨t.rel,t.args,t.rule,lU ids⟩ ∉ L1->G L1 ⟨t.rel,t.args,t.rule,lU ids⟩)(hkl:t.kids.length<=134217000):
 ∀(r j:Nat),j+r=t.kids.length->∀(old:Old) (w s x N ob tb to:Nat) (A:List Nat) (SV O:AV) (L K:List LN) (σ ids:List Nat) (S:List AV) (g:Bool) (cp:Option Nat) (m:Mm) (R:qC),
 MX old m ob A SV L σ->A8 L σ K->UG L->oW L0 (t.kids.take j) L ids->UL G L (t.kids.drop j)->
 m s= .cells S 57 g false->m x= .cells [.ptr (OLD+tb) to,O] 59 false false->Zd m O (lU ids)->(∀q,Vt O q->q<N∧q≠s∧q≠x∧q ∉ A)->CJ old (.ptr (OLD+tb) to) t->S[w]? =some (.ptr x 0)->Jl cp g S (w+1)->
 s≠x->s ∉ A->x ∉ A->s<N->x<N->(∀z∈A,z<N)->N+21*eX (t.kids.drop j)+15<=OLD->w+eX (t.kids.drop j)+1<=134217000->L.length+eX (t.kids.drop j)+1<=134217000->
 (∀p P SV' L' K' σ' (i k:Nat) s' S' cp' g' m' N',Old.le old p->xW L0 t L' i->MX p m' ob P SV' L' σ'->A8 L' σ' K'->UG L'->σ'[k]? =some i->L'.length<=L.length+eX (t.kids.drop j)+1->
  m' s'= .cells S' 57 g' false->Jl cp' g' S' w->(∀i,i<w->S'[i]? =S[i]?)->(s'=s∨N<=s')->s'<N'->s' ∉ P->(∀z∈P,z∈A∨N<=z)->(∀z∈P,z<N')->N<=N'->N'<=N+21*eX (t.kids.drop j)+15->(∀j,j<N->j ∉ A->j≠s->j≠x->¬Vt O j->m' j=m j)->
  dL prog E p (xq (.ptr ob 0) SV' (.sl s' 0 w cp') k) m' N' R)->
 dL prog E old (LZ (.ptr ob 0) SV (.sl s 0 (w+1) cp)) m N R
 |0,j,hj,old,w,s,x,N,ob,tb,to,A,SV,O,L,K,σ,ids,S,g,cp,m,R,hO,hS,hLl,hF,hA,hs,hx,hkv,hkd,hp,hT,hst,hne,hso,hxo,hsN,hxN,hoN,hB,hw,hLn,B'=>by
  have f:=hF.len;rw[eP (by omega)]at hF f;refine ahR W Y X Z hs hx hne hsN hxN (by omega) hst (by omega) hT hkv (λk H=>(hkd k H).1) hp M.kids.1 (by rw[Dy];exact f) ?_;intro old1 y c m1 h1 v h3 h4 h5 h6;have how:∀z∈A,m1 z=m z:=λz b=>h6 z (hoN z b) λH=>(hkd z H).2.2.2 b;refine agm W Y X Z (hO.mono h1 how) hS hLl (by omega) h4 h5 (λhy=>by have:=hoN y hy;omega) (by omega) (λz b=>by have:=hoN z b;omega) (by omega) (λk p hf hL0=>hI p L K σ _ k hS hL0 (by omega) (hG L ids hF (hS.not hf)) hf) ?_;intro B D SV2 L2 Q K2 i k m2 N2 g1 g2 g3 g4 g5 g6 g7 g8 g9 g10;have U:L2.length<=L.length+1:=by
   rcases g2 with⟨rfl,_⟩|⟨_,rfl,_⟩
   .omega
   .simp
  refine B' B D SV2 L2 K2 Q i k s S cp g m2 N2 (Old.le_trans h1 g1) (xW.of hF g2) g3 g4 ?_ g5 (by omega) ?_ hst.pop (λ_ _=>rfl) (.inl rfl) (by omega) ?_ ?_ g7 (by omega) (by omega) (λq q1 q2 q3 q4 q5=>?_)
  .rcases g2 with⟨rfl,_⟩|⟨_,rfl,_⟩
   .exact hLl
   .intro l hl
    rcases bQ.1 hl with hl|hl
    .exact hLl l hl
    .rcases bY.1 hl with rfl
     refine⟨M.kids.1,?_⟩;show(lU ids).length<=_;rw[Dy,f];omega
  .rw[g10 s (by omega) hso,h6 s hsN λH=>(hkd s H).2.1 rfl];exact hs
  .intro b
   rcases g6 s b with h|h
   .exact hso h
   .omega
  .intro z b
   rcases g6 z b with h|h
   .exact .inl h
   .exact .inr (by omega)
  .rw[g10 q (by omega) q2];exact h6 q q1 q5
 |r+1,j,hj,old,w,s,x,N,ob,tb,to,A,SV,O,L,K,σ,ids,S,g,cp,m,R,hO,hS,hLl,hF,hA,hs,hx,hkv,hkd,hp,hT,hst,hne,hso,hxo,hsN,hxN,hoN,hB,hw,hLn,B'=>by
  have f:=hF.len;rw[eG,Nat.min_eq_left (by omega)]at f;have V:j<t.kids.length:=by omega
  obtain⟨u,hu⟩:∃u,t.kids[j]? =some u:=⟨_,aI V⟩;have hum:u∈t.kids:=bP hu;have I:t.kids.drop j=u::t.kids.drop (j+1):=by
   obtain⟨e1,e2⟩:=aA.1 hu;rw[bn e1,e2]
  have U:eX (t.kids.drop j)=u.size+eX (t.kids.drop (j+1)):=by rw[I];rfl
  have hup:=u.size_pos;rw[U]at hB hw hLn;rw[I]at hA;obtain⟨hA1,hA2⟩:=hA;obtain⟨a,ka,kc,ks,r1,r2,r3,lF,lR,lK⟩:=hp.reads;rcases r3 with⟨h0,_⟩|⟨bk,ok,rfl,hC⟩
  .rw[h0]at V;exact aX V (gV _)
  .refine agl W Y X Z hs hx hne hsN hxN (by omega) hst (by omega) hT (by have:=hkv.ok;rwa[Dy,f]at this) lK V ?_
   intro s1 S1 cp1 g1 m1 h1 v h3 h4 h5 h6 h7 h8;obtain⟨cu,hcu,hcu2⟩:=r2.at hC hu;have hpu:CJ old (.ptr (OLD+bk) (ok+j*4)) u:=⟨bk,ok+j*4,cu,rfl,hcu,hcu2⟩;have how:∀z∈A,m1 z=m z:=λz b=>h8 z (hoN z b) (λe=>hso (e▸b));refine ih u hum old (w+1) s1 N (N+3) ob bk (ok+j*4) A SV L K σ S1 g1 cp1 m1 R (hO.mono (Old.le_refl _) how) hS hLl hA1 (LJ M.kids.2 hum) h1 h7 hpu h6 h4 h3 ?_ ?_ (by omega) (by omega) (λz b=>by have:=hoN z b;omega) (by omega) (by omega) (by omega) ?_
   .intro b
    rcases v with rfl|v
    .exact hso b
    .have:=hoN s1 b;omega
   .intro b;have:=hoN N b;omega
   .intro B D SV2 L2 K2 Q i k s2 S2 cp2 g2 m2 N2 e1 e2 e3 e4 e5 e6 e7 e8 e9 e10 d e12 e13 e14 e15 e16 e17 e18
    have hx2:m2 x= .cells [.ptr (OLD+tb) to,O] 59 false false:=by
     rw[e18 x (by omega) hxo (by omega) (by omega),h8 x hxN (Ne.symm hne)];exact hx
    have hkv2:Zd m2 O (lU ids):=by
     rcases hkv with⟨rfl,hi⟩|⟨q,rfl,hq,hq0⟩
     .exact .inl ⟨rfl,hi⟩
     .obtain⟨c1,c2,c3,c4⟩:=hkd q ⟨_,_,_,rfl⟩
      exact .inr ⟨q,rfl,by rw[e18 q (by omega) c4 (by omega) (by omega),h8 q c1 c2];exact hq,hq0⟩
    have hL2:L2≠[]:=by
     intro h;rw[h]at e4;have:=e4.YD;have H:=(aA.1 e6).1;rw[this]at H;exact aX H (gV _)
    rcases e3 with⟨_,h,_⟩|⟨oq,sq,cs,how2,hnd,_,hSV,hob2,hoq2,hcs2,hsq2⟩
    .exact aX h hL2
    have e3:MX B m2 ob D SV2 L2 Q:= .inr ⟨oq,sq,cs,how2,hnd,hL2,hSV,hob2,hoq2,hcs2,hsq2⟩;have C:sq∈D:=by rw[how2];simp
    have F:∀{z:Nat},z<N->z ∉ A->z ∉ D:=λ{z} h1 v h3=>by
     rcases e14 z h3 with h|h
     .exact v h
     .omega
    subst hSV;have hnds:[s2,x,sq].Nodup:=by
     simp only[dK,ay,av,aU,not_or];refine⟨⟨?_,λe=>e13 (e▸C)⟩,λe=>F hxN hxo (e▸C),by simp⟩;rcases d with rfl|d
     .omega
     .omega
    refine fup W Y X Z (num:=i) e8 hx2 hsq2 (by rw[e10 w (by omega),h5 w (by omega)];exact hT) hkv2 e6 (by omega) (by rw[Dy,f];omega) hnds ?_ (λq hq=>?_) (by omega) ?_
    .intro z b
     simp only[ay,av,aU]at b;rcases b with rfl|rfl|rfl
     .exact e12
     .omega
     .exact e15 _ C
    .obtain⟨c1,c2,c3,c4⟩:=hkd q hq
     refine⟨by omega,?_,c3,λe=>F c1 c4 (e▸C)⟩;rcases d with rfl|d
     .rcases v with rfl|v
      .exact c2
      .omega
     .omega
    .intro kv' q m' J hq1 hq2 f1 f2 f3
     have hids2:lU ids++[(i:Int)]=lU (ids++[i]):=by unfold lU;rw[oO];rfl
     have fr:∀{z:Nat},z<N->z ∉ A->z≠s->z≠x->¬Vt O z->m' z=m z:=λ{z} z1 z2 z3 z4 z5=>by
      rw[f3 z (by omega) z4 z5,e18 z (by omega) z2 (by omega) (by omega),h8 z z1 z3]
     refine adV hI ih M hG hkl r (j+1) (by omega) B w s2 x (N2+3) ob tb to D _ kv' L2 K2 Q (ids++[i]) S2 g2 cp2 m' R (e3.mono (Old.le_refl _) λz b=>?_) e4 e5 ?_ (hA2 L2 i e2) ?_ f1 ?_ ?_ (hp.mono e1) ?_ e9 ?_ e13 (F hxN hxo) (by omega) (by omega) (λz b=>by have:=e15 z b;omega) (by omega) (by omega) (by omega) ?_
     .exact f3 z (by have:=e15 z b;omega) (λe=>F hxN hxo (e▸b)) (λH=>by
       obtain⟨c1,c2,c3,c4⟩:=hkd z H;exact F c1 c4 b)
     .have:=hF.snoc e2
      rw[List.take_succ,hu];exact this
     .rw[f3 s2 e12 (λe=>?_) (λH=>?_)];exact e8
      .rcases d with rfl|d
       .omega
       .omega
      .obtain⟨c1,c2,c3,c4⟩:=hkd s2 H
       rcases d with h|d
       .rcases v with h'|v
        .exact c2 (h.trans h')
        .omega
       .omega
     .rw[← hids2]
      refine .inr ⟨q,by rw[J,bC];rfl,f2,by simp⟩
     .intro q' hq'
      obtain⟨o,n,c,h⟩:=hq';rw[J]at h;cases h;refine⟨by omega,by omega,by omega,λb=>?_⟩;have:=e15 _ b;omega
     .rw[e10 w (by omega),h5 w (by omega)];exact hT
     .rcases d with rfl|d
      .omega
      .omega
     .intro old3 ow3 SV3 L3 K3 σ3 i3 k3 s3 S3 cp3 g3 m3 N3 p1 p2 p3 p4 p5 p6 p7 p8 p9 p10 p11 p12 p13 p14 p15 p16 p17 p18
      refine B' old3 ow3 SV3 L3 K3 σ3 i3 k3 s3 S3 cp3 g3 m3 N3 (Old.le_trans e1 p1) p2 p3 p4 p5 p6 (by rw[U];omega) p8 p9 (λz b=>by rw[p10 z b,e10 z (by omega),h5 z (by omega)]) ?_ p12 p13 ?_ p15 (by omega) (by rw[U];omega) ?_
      .rcases p11 with rfl|p11
       .rcases d with rfl|d
        .rcases v with v|v
         .exact .inl v
         .exact .inr v.1
        .exact .inr (by omega)
       .exact .inr (by omega)
      .intro z b
       rcases p14 z b with h|h
       .rcases e14 z h with h|h
        .exact .inl h
        .exact .inr (by omega)
       .exact .inr (by omega)
      .intro z z1 z2 z3 z4 z5
       rw[p18 z (by omega) (F z1 z2) ?_ z4 ?_,fr z1 z2 z3 z4 z5]
       .rcases d with rfl|d
        .rcases v with rfl|v
         .exact z3
         .omega
        .omega
       .rintro⟨o,n,c,h⟩
        rw[J]at h;cases h;omega
theorem XB{G:List LN->LN->Prop}(U:∀old L K σ y k,A8 L σ K->L≠[]->L.length<=134217000->G L y->vN K y k false->V4 old σ k):∀(n:Nat) (t:T),t.size<=n->abR G t
 |0,t,h=>by have:=t.size_pos;omega
 |n+1,t,h=>by
  intro old w s x N ob V to ow SV L K σ S g cp m R hO hS b hA c hs hx hp hT d e f j l o p hB hw hLn B';have hsz:=qp t;obtain⟨r,v⟩:=hA.kids;have hkl:=wG t.kids;refine adV W Y X Z U (λu hu=>XB U n u (by have:=CW hu;omega)) c v (by omega) t.kids.length 0 (by omega) old w s x N ob V to ow SV .aQ L K σ [] S g cp m R hO hS b (by rw[List.take_zero];exact .nil) (by rw[gB];exact r) hs hx (.inl ⟨rfl,rfl⟩) (λq hq=>by obtain⟨_,_,_,h⟩:=hq;cases h) hp hT d e f j l o p (by rw[gB];omega) (by rw[gB];omega) (by rw[gB];omega) ?_;intro a A B L' K' C i k s' S' D g' m' N' p1 p2 p3 p4 p5 p6 p7 p8 p9 E F H I J M O P Q;rw[gB]at p7 P;exact B' a A B L' K' C i k s' S' D g' m' N' p1 p2 p3 p4 p5 p6 (by omega) p8 p9 E F H I J M O (by omega) (λz z1 z2 z3 z4=>Q z z1 z2 z3 z4 (λhk=>by obtain⟨_,_,_,h⟩:=hk;cases h))
end
end
section
variable{G:List LN->LN->Prop}{v:AV}
section
variable(W:Fe)(Y:Ge)(X:∀old,Fw old)(Z:∀old,Gw old)
include W Y X Z
theorem c6(old:Old){t:T}(hv:JO old v t)(hs:t.size<=65536)(C:t.aok)(hG:Ze G [] t)(hI:∀old L K σ y k,A8 L σ K->L≠[]->L.length<=134217000->G L y->vN K y k false->V4 old σ k):
 jV prog E old 6 [v] (λr w=>∃L i,xW [] t L i∧(∃b c,w= .aO (some (b,0)) L.length c)∧UH r w L∧L.length<=t.size∧UG L):=by
 obtain⟨cs,rfl,h⟩:=hv;have B:=h.len;obtain⟨a,ka,kc,ks,rfl,f1,f2,f3⟩:=h.one;refine jV.ofR (Z old) (by kernel_rfl) (fU.of (fo1 W Y old (X old) (Z old) t.rel a t.rule ka t.kids.length kc) (dF rfl) ?_);refine fU.box h rfl rfl (λb=>AF.sJ (by show(((true&&(Nat.blt (OLD+b) 0||Nat.ble OLD (OLD+b))&&true)&&true&&true)&&true)=true;rw[Ac];rfl)) λd b hle hp=>?_;refine fU.yS (X d) (Z d) (fo2 W Y d (X d) (Z d) b) (Fp b) rfl (dF rfl) (c18 W Y X Z d hp hs) ?_
 rintro f w s ⟨b2,c2,ps,rfl,h1,F⟩
 refine fU.of (fq1 W Y f (X f) (Z f) d b b2 _ c2) (dF rfl) ?_;refine fU.ofM (m:=mOf (dJ (.cells [.ptr (OLD+b) 0,.aQ] 59 false false) Ux (.cells [zP 1 0] 57 false false))) ?_ (λi B=>Sj B) rfl;refine XB W Y X Z hI t.size t (aj _) f 0 2 1 3 0 b 0 [0] .aQ [] [] [] [.ptr 1 0] false (some 1) _ _ (.inl ⟨rfl,rfl,rfl,rfl,rfl⟩) ⟨rfl,rfl,λi j h=>by simp at h,List.Pairwise.nil,λx hx=>hx⟩ (λl B=>by cases B) hG C rfl rfl (hp.mono s) rfl (.inr ⟨rfl,rfl,rfl,aj _⟩) (by decide) (by decide) (by decide) (by decide) (by decide) (by decide) (by unfold OLD;omega) (by omega) (by simp;omega) ?_;intro S ow SV L K σ i k H S' u g' m' N' p1 p2 p3 U p5 p6 p7 p8 p9 p10 p11 p12 I p14 J p16 p17 p18;have hL:L≠[]:=by
  intro h;rw[h]at U;have:=U.YD;have V:=(aA.1 p6).1;rw[this]at V;exact aX V (gV _)
 rcases p3 with⟨_,h,_⟩|⟨oq,M,cs,rfl,z,_,rfl,N,O,o,hsq⟩
 .exact aX h hL
 simp only[dK,ay,av,aU,not_or]at z;obtain⟨⟨d1,d2⟩,d3,_⟩:=z;have hsqN:=J M (by simp);have P:N'<=OLD:=by unfold OLD at*;omega
 refine dL.Tn (id:=oq) (i:=0) (j:=0) O (wY o.low) N (by omega) rfl ?_;intro n p q A _ Q;have hs0:H≠0:=λe=>I (by rw[e];simp);obtain⟨θ,R⟩:=Pm.of [0] [0] rfl (by decide) (by decide) (by decide) (by decide);have t0:θ.to 0=0:=by
  have h:[θ.to 0]=[0]:=R;simpa using h
 have D:=fq9 W Y n (X n) (Z n) k (θ.inv M) σ.length none u p L.length q (θ.inv H);refine dL.uy (θ:=θ) (N':=N') (l:=[(0,.cells [.aO (some (p,0)) L.length q] 31 false false)]) ⟨λe g=>?_,λe g=>?_,λe g hlv=>?_,λi h1 F=>?_,aj _,rfl,P,rfl,rfl⟩ D ⟨rfl,rfl,rfl⟩ ?_ ⟨⟨L,i,p2,⟨p,q,rfl⟩,⟨cs,.inl ⟨p,0,q,rfl,?_⟩,o.mono A⟩,?_,p5⟩,rfl⟩
 .have g:e∈[(0,AO.cells [.aO (some (p,0)) L.length q] 31 false false)]:=g
  simp only[ay,av,aU]at g;subst g;rw[t0];simp only[dn];rw[aC trivial];rfl
 .have g:e∈[(0,AO.cells [.aO (some (p,0)) L.length q] 31 false false)]:=g
  simp only[ay,av,aU]at g;subst g;rw[t0];simp
 .simp only[ay,av,aU]at g
  subst g;exact⟨0,_,rfl,t0,rfl⟩
 .have h1:1<=i:=h1
  have F:i<1:=F;omega
 .show _=xq (.ptr (θ.to 0) 0) (.sl (θ.to (θ.inv M)) 0 σ.length none) (.sl (θ.to (θ.inv H)) 0 0 u) k
  rw[t0,θ.ri,θ.ri]
 .have:=know Q
  rw[o.len]at this;exact this
 .simpa using p7
end
end
section
variable(Y:Fe)(Z:Ge)
include Y Z
theorem ing(old:Old)(F:Fw old)(FF:Gw old)(num:Int)(n k i:Nat)(a:AV)(b:List AV)(e f d:List AV)(h1:gQ (E.wo old) 56 (.sl 1 0 n (some k)) (some (zI (↑i:Int))) none none=some (.sl 1 i (n - i) (some (k - i))))(g:gQ (E.wo old) 56 (.sl 1 0 n (some k)) none (some (zI (↑i:Int))) none=some (.sl 1 0 i (some k)))(h:gX (E.wo old) (jK (LQ a b) (iV num)) .append [.sl 1 0 i (some k),zI (IntKind.i64.wrap ((IntKind.i64.wrap ((↑n:Int)+1)) - (↑i:Int)))] [56,3]=some (.val (.sl 2 0 (n+1) none) (dJ (LQ a b) (iV num) (rC e))))(j:gQ (E.wo old) 56 (.sl 2 0 (n+1) none) (some (zI (↑i:Int))) none none=some (.sl 2 i (n+1 - i) none))(m:gQ (E.wo old) 56 (.sl 2 0 (n+1) none) (some (zI (IntKind.i64.wrap ((↑i:Int)+1)))) none none=some (.sl 2 (i+1) (n - i) none))(o:gX (E.wo old) (dJ (LQ a b) (iV num) (rC e)) .copy [.sl 2 i (n+1 - i) none,.sl 0 0 1 (some 1)] [56,56]=some (.val (zI 1) (dJ (LQ a b) (iV num) (rC f))))(p:gX (E.wo old) (dJ (LQ a b) (iV num) (rC f)) .copy [.sl 2 (i+1) (n - i) none,.sl 1 i (n - i) (some (k - i))] [56,56]=some (.val (zI (↑(n - i):Int)) (dJ (LQ a b) (iV num) (rC d))))(q:((↑i:Int)==(↑n:Int))=false)(r:(decide (IntKind.i64.wrap ((↑n:Int)+1)>(↑k:Int)))=true):DR old (ent (E.wo old) 25 [.sl 1 0 n (some k),zI (↑i:Int),.sl 0 0 1 (some 1)]) (jK (LQ a b) (iV num)) (.sl 2 0 (n+1) none) (dJ (LQ a b) (iV num) (rC d)):=
 prt F FF (Qv 8 h1 (Qb 26 q (Qb 11 r (Qv 6 g (Ql 5 h (Qv 6 j (Ql 1 o (Qd 2 [.c,.c,.c,.c,.v (.sl 2 (i+1) (n - i) none),.c,.c,.v (.sl 1 i (n - i) (some (k - i))),.l (zI (↑(n - i):Int)) (dJ (LQ a b) (iV num) (rC d))] (Qq m (Qq h1 (Qz (Qp p (Qn 6))))))))))))) (by kernel_rfl)
end
section
variable(Y:Fe)(Z:Ge)
include Y Z
theorem inp(old:Old)(F:Fw old)(FF:Gw old)(num:Int)(n k i:Nat)(b:AV)(d:List AV)(a e:List AV)(h1:gQ (E.wo old) 56 (.sl 1 0 n (some k)) (some (zI (↑i:Int))) none none=some (.sl 1 i (n - i) (some (k - i))))(h:gQ (E.wo old) 56 (.sl 1 0 n (some k)) none (some (zI (IntKind.i64.wrap ((↑n:Int)+1)))) none=some (.sl 1 0 (n+1) (some k)))(f:gQ (E.wo old) 56 (.sl 1 0 (n+1) (some k)) (some (zI (IntKind.i64.wrap ((↑i:Int)+1)))) none none=some (.sl 1 (i+1) (n - i) (some (k - (i+1)))))(g:gQ (E.wo old) 56 (.sl 1 0 (n+1) (some k)) (some (zI (↑i:Int))) none none=some (.sl 1 i (n+1 - i) (some (k - i))))(j:gX (E.wo old) (jK (LQ b d) (iV num)) .copy [.sl 1 (i+1) (n - i) (some (k - (i+1))),.sl 1 i (n+1 - i) (some (k - i))] [56,56]=some (.val (zI (↑(n - i):Int)) (jK (rC a) (iV num))))(m:gX (E.wo old) (jK (rC a) (iV num)) .copy [.sl 1 i (n+1 - i) (some (k - i)),.sl 0 0 1 (some 1)] [56,56]=some (.val (zI 1) (jK (rC e) (iV num))))(o:((↑i:Int)==(↑n:Int))=false)(p:(decide (IntKind.i64.wrap ((↑n:Int)+1)>(↑k:Int)))=false):DR old (ent (E.wo old) 25 [.sl 1 0 n (some k),zI (↑i:Int),.sl 0 0 1 (some 1)]) (jK (LQ b d) (iV num)) (.sl 1 0 (n+1) (some k)) (jK (rC e) (iV num)):=
 prt F FF (Qv 8 h1 (Qb 26 o (Qb 11 p (Qv 9 h (Qv 10 f (Qd 5 [.c,.c,.c,.c,.v (.sl 1 (i+1) (n - i) (some (k - (i+1)))),.c,.c,.v (.sl 1 i (n+1 - i) (some (k - i))),.l (zI (↑(n - i):Int)) (jK (rC a) (iV num))] (Qq f (Qq g (Qz (Qp j (Qv 4 g (Ql 1 m (Qn 7))))))))))))) (by kernel_rfl)
end
section
variable{i:Nat}{num:Int}{σ:List Nat}
theorem yj{E:Env}{t e:TypeId}{z:Nat}(b:E.d t=some (.slice e))(f:(E.tt.get e).map (·.size)=some z){id n c:Nat}{k:Int}{x:Nat}(g:k=(↑x:Int))(o:x<=n)(p:x<c):gQ E t (.sl id 0 n (some c)) (some (zI k)) none none=some (.sl id (x*z) (n - x) (some (c - x))):=by
 subst g;obtain⟨a,i,rfl⟩:=aP.1 f;unfold gQ;rw[b];show(match E.tt.get e,AU none c c with
  |some a,some m=>rX id 0 a.size n m (some (zI ↑x)) none false
  |_,_=>none)=_
 rw[i];show rX id 0 a.size n c (some (zI ↑x)) none false=_;unfold rX;show(match AU (some (zI (↑x:Int))) n 0 with
  |none=>none
  |some l=>some (AV.sl id (cond (Nat.beq c l) 0 (0+l*a.size)) (n - l) (some (c - l))))=_
 have j:AU (some (zI (↑x:Int))) n 0=some x:=by
  show cond (decide (((0:Nat):Int)<=(↑x:Int)∧(↑x:Int)<=n)) (some (↑x:Int).toNat) none=_;rw[aB ⟨by omega,by omega⟩,bZ];rfl
 rw[j];show some (AV.sl id (cond (Nat.beq c x) 0 (0+x*a.size)) (n - x) (some (c - x)))=_;rw[show Nat.beq c x=false from by
  cases h:Nat.beq c x with
  |false=>rfl
  |true=>exact aX (au h) (by omega),fA]
 rfl
theorem JI{E:Env}{t u e:TypeId}(a:E.d t=some (.slice e))(f:(E.tt.get e).map (·.size)=some 1){h h':AH}{i o l j p k n:Nat}{c1 c2:Option Nat}{cs:List AV}(g:n=Nat.min k l)(m:jA E h j p n=some cs)(q:fE h i o cs=some h'):
 gX E h .copy [.sl i o l c1,.sl j p k c2] [t,u]=some (.val (zI (↑n:Int)) h'):=by
 obtain⟨r,s,b⟩:=aP.1 f;have b:r.size=1:=b;subst g;show(IW E h t (.sl i o l c1) (.sl j p k c2)).map (λp=>OR.val p.1 p.2)=_;unfold IW;cases c:E.tt.get t with
 |none=>unfold Env.d at a;rw[c]at a;cases a
 |some ti=>
  obtain⟨d,sz,v,x⟩:=ti;have w:d= .slice e:=by unfold Env.d at a;rw[c]at a;exact aN a
  subst w;simp only[];rw[s];simp only[];rw[b,bJ,m];simp only[];rw[q];rfl
theorem ads{E:Env}{t u e:TypeId}{z0:AV}(a:E.d t=some (.slice e))(b:E.d u=some (.int .i64))(k:(E.tt.get e).map (λx=>(x.size,x.bytes,x.zero))=some (1,8,[z0])){h:AH}{i len c n:Nat}{cs:List AV}(l:jA E h i 0 len=some cs)(D:0<n)(m:n<=268435456)(G:len+c<=268435456)(H:c<len+n):
 gX E h .append [.sl i 0 len (some c),zI (↑n:Int)] [t,u]=some (.val (.sl h.nx 0 (len+n) none) (h.new (.cells (cs++rep n [z0]) e true false))):=by
 obtain⟨o,q,r⟩:=aP.1 k;obtain⟨I,J,K,L⟩:=o;cases r;show(N7 E h t u (.sl i 0 len (some c)) (↑n:Int)).map (λp=>OR.val p.1 p.2)=_;unfold N7;cases g:E.tt.get t with
 |none=>unfold Env.d at a;rw[g]at a;cases a
 |some ti=>
  cases j:E.tt.get u with
  |none=>unfold Env.d at b;rw[j]at b;cases b
  |some s=>
   obtain⟨d,sz,M,N⟩:=ti;obtain⟨v,w,y,z⟩:=s;have A:d= .slice e:=by unfold Env.d at a;rw[g]at a;exact aN a
   have f:v= .int .i64:=by unfold Env.d at b;rw[j]at b;exact aN b
   subst A;subst f;simp only[];rw[q];simp only[];have B:Nat.blt 268435456 (len+c)=false:=by
    cases h:Nat.blt 268435456 (len+c)with
    |false=>rfl
    |true=>rw[dB]at h;omega
   have g2:Nat.ble (len+n) c=false:=by
    cases h:Nat.ble (len+n) c with
    |false=>rfl
    |true=>have:=aJ h;omega
   have C:Nat.beq n 0=false:=by cases n with |zero=>omega|succ n=>rfl
   rw[bZ,bJ,bJ,B,g2,C,aB (by omega:(0:Int)<=↑n),aB (by omega:(↑n:Int)<=268435456),l];rfl
theorem Fa(z:AV):∀n,(rep n [z]).length=n
 |0=>rfl
 |n+1=>by show(z::rep n [z]).length=_;rw[fB,Fa z n]
theorem Yt(σ:List Nat)(i:Nat):nums (σ.take i)=(nums σ).take i:=by unfold nums;rw[List.map_take]
theorem Yu(σ:List Nat)(i:Nat):nums (σ.drop i)=(nums σ).drop i:=by unfold nums;rw[List.map_drop]
theorem Hu:∀σ:List Nat,vO (nums σ)=true
 |[]=>rfl
 |_::l=>Hu l
theorem RH(σ:List Nat)(i:Nat):nums σ=nums (σ.take i)++nums (σ.drop i):=by rw[Yt,Yu,mg]
section
variable(W:Fe)(Y:Ge)(Z:Old)(F:Fw Z)(X:Gw Z)
include W Y F X
theorem aaH{k e:Nat}(hi:i<σ.length)(J:k<σ.length+1)(K:σ.length<=k)(L:σ.length<=134217728):
 DR Z (ent (E.wo Z) 25 [.sl 1 0 σ.length (some k),zI (↑i:Int),.sl 0 0 1 (some 1)]) (jK (.cells (nums σ++List.replicate e .any) 3 true false) (iV num))
  (.sl 2 0 (σ.length+1) none) (dJ (.cells (nums σ++List.replicate e .any) 3 true false) (iV num) (.cells (nums (σ.take i)++zI num::nums (σ.drop i)) 3 true false)):=by
 obtain⟨m,q,w⟩:∃m q,nums σ++List.replicate e .any=m::q:=by
  cases σ with
  |nil=>simp at hi
  |cons a σ=>exact⟨_,_,rfl⟩
 have b:(nums (σ.take i)).length=i:=by rw[kZ,eG];omega
 have f:(nums (σ.drop i)).length=σ.length - i:=by rw[kZ,iF]
 have d:nums σ++List.replicate e .any=nums (σ.take i)++(nums (σ.drop i)++List.replicate e .any):=by rw[← fC,← RH]
 have y:(nums σ++List.replicate e AV.any).length=σ.length+e:=by rw[bC,kZ,List.length_replicate]
 have A:jA (E.wo Z) (jK (.cells (nums σ++List.replicate e .any) 3 true false) (iV num)) 1 0 i=some (nums (σ.take i)):=by
  show takeN (nums σ++List.replicate e .any) 0 i=_;rw[d];have:=GR (nums (σ.take i)) [] (nums (σ.drop i)++List.replicate e .any);rw[b]at this;exact this
 have w1:IntKind.i64.wrap ((↑σ.length:Int)+1)=(↑(σ.length+1):Int):=by rw[lT (by omega) (by omega)];omega
 have w2:IntKind.i64.wrap ((↑(σ.length+1):Int) - (↑i:Int))=(↑(σ.length+1 - i):Int):=by rw[lT (by omega) (by omega)];omega
 have B:IntKind.i64.wrap ((↑i:Int)+1)=(↑(i+1):Int):=by rw[lT (by omega) (by omega)];omega
 have r:=ads (E:=E.wo Z) (t:=56) (u:=3) (e:=3) (z0:=zI 0) (by kernel_rfl) (by kernel_rfl) (by kernel_rfl) A (n:=σ.length+1 - i) (c:=k) (by omega) (by omega) (by omega) (by omega);have s:=JI (E:=E.wo Z) (t:=56) (u:=56) (e:=3) (by kernel_rfl) (by kernel_rfl) (h:=(dJ (.cells (nums σ++List.replicate e .any) 3 true false) (iV num) (.cells (nums (σ.take i)++rep (σ.length+1 - i) [zI 0]) 3 true false))) (i:=2) (o:=i) (l:=σ.length+1 - i) (j:=0) (p:=0) (k:=1) (n:=1) (c1:=none) (c2:=some 1) (cs:=[zI num]) (by
  show 1=min 1 (σ.length+1 - i);omega) rfl
  (fK (l:=nums (σ.take i)++rep (σ.length+1 - i) [zI 0]) (e:=3) (g:=true) rfl (by rw[bC,b,Fa];show i+1<=_;omega) rfl)
 have C:setAt (nums (σ.take i)++rep (σ.length+1 - i) [zI 0]) i [zI num]=(nums (σ.take i)++[zI num])++(rep (σ.length - i) [zI 0]++[]):=by
  have h:=rF [zI 0] [zI num] (nums (σ.take i)) (rep (σ.length - i) [zI 0]) rfl;rw[b]at h;rw[show rep (σ.length+1 - i) [zI 0]=[zI 0]++rep (σ.length - i) [zI 0]by rw[show σ.length+1 - i=(σ.length - i)+1 by omega];rfl,h,dD,fC]
 rw[C]at s;have v:=JI (E:=E.wo Z) (t:=56) (u:=56) (e:=3) (by kernel_rfl) (by kernel_rfl) (h:=(dJ (.cells (nums σ++List.replicate e .any) 3 true false) (iV num) (.cells ((nums (σ.take i)++[zI num])++(rep (σ.length - i) [zI 0]++[])) 3 true false))) (i:=2) (o:=i+1) (l:=σ.length - i) (j:=1) (p:=i) (k:=σ.length - i) (n:=σ.length - i) (c1:=none) (c2:=some (k - i)) (cs:=nums (σ.drop i)) (by
  show _=min _ _;omega) (by
  show takeN (nums σ++List.replicate e .any) i (σ.length - i)=_;rw[d];have:=GR (nums (σ.drop i)) (nums (σ.take i)) (List.replicate e .any);rwa[b,f]at this)
  (fK (l:=(nums (σ.take i)++[zI num])++(rep (σ.length - i) [zI 0]++[])) (e:=3) (g:=true) rfl (by simp only[bC,b,f,Fa,List.length_singleton,List.length_nil];omega) (Hu _))
 have D:setAt ((nums (σ.take i)++[zI num])++(rep (σ.length - i) [zI 0]++[])) (i+1) (nums (σ.drop i))=nums (σ.take i)++zI num::nums (σ.drop i):=by
  have h:=rF (rep (σ.length - i) [zI 0]) (nums (σ.drop i)) (nums (σ.take i)++[zI num]) [] (by rw[f,Fa]);rw[bC,b]at h;rw[show i+[zI num].length=i+1 from rfl]at h;rw[h,dD,fC];rfl
 rw[D]at v;rw[w]at r s v ⊢;have G:gQ (E.wo Z) 56 (.sl 2 0 (σ.length+1) none) (some (zI (↑i:Int))) none none=some (.sl 2 i (σ.length+1 - i) none):=by
  rcases jw i with rfl|h0
  .kernel_rfl
  .have:=J3 (E:=E.wo Z) (t:=56) (e:=3) (z:=1) (by kernel_rfl) (by kernel_rfl) (id:=2) (n:=σ.length+1) (k:=↑i) (x:=i) rfl h0 (by omega)
   rwa[bJ]at this
 have H:gQ (E.wo Z) 56 (.sl 2 0 (σ.length+1) none) (some (zI (IntKind.i64.wrap ((↑i:Int)+1)))) none none=some (.sl 2 (i+1) (σ.length - i) none):=by
  have:=J3 (E:=E.wo Z) (t:=56) (e:=3) (z:=1) (by kernel_rfl) (by kernel_rfl) (id:=2) (n:=σ.length+1) (k:=↑(i+1)) (x:=i+1) rfl (by omega) (by omega);rw[bJ,show σ.length+1 - (i+1)=σ.length - i by omega]at this;rw[B];exact this
 have h1:gQ (E.wo Z) 56 (.sl 1 0 σ.length (some k)) (some (zI (↑i:Int))) none none=some (.sl 1 i (σ.length - i) (some (k - i))):=by
  have:=yj (E:=E.wo Z) (t:=56) (e:=3) (z:=1) (by kernel_rfl) (by kernel_rfl) (id:=1) (n:=σ.length) (c:=k) (k:=↑i) (x:=i) rfl (by omega) (by omega);rwa[bJ]at this
 have I:=CV (E:=E.wo Z) (t:=56) (e:=3) (z:=1) (by kernel_rfl) (by kernel_rfl) (id:=1) (n:=σ.length) (c:=k) (k:=↑i) (x:=i) rfl (by omega);rw[show i+(σ.length+1 - i)=σ.length+1 by omega]at r;refine ing W Y Z F X num σ.length k i m q _ _ _ h1 I ?_ G H s v ?_ ?_
 .rw[w1,w2];exact r
 .simp;omega
 .rw[w1];exact aB (by omega)
theorem aaG{k e:Nat}(hi:i<σ.length)(K:σ.length+1<=k)(L:k<=σ.length+(e+1))(M:σ.length<=134217728):
 DR Z (ent (E.wo Z) 25 [.sl 1 0 σ.length (some k),zI (↑i:Int),.sl 0 0 1 (some 1)]) (jK (.cells (nums σ++List.replicate (e+1) .any) 3 true false) (iV num))
  (.sl 1 0 (σ.length+1) (some k)) (jK (.cells ((nums (σ.take i)++zI num::nums (σ.drop i))++List.replicate e .any) 3 true false) (iV num)):=by
 obtain⟨r,s,B⟩:∃r s,nums σ++List.replicate (e+1) .any=r::s:=by
  cases σ with
  |nil=>simp at hi
  |cons a σ=>exact⟨_,_,rfl⟩
 obtain⟨d,ds,w⟩:∃d ds,σ.drop i=d::ds:=by
  cases h:σ.drop i with
  |nil=>have:=gu List.length h;rw[iF]at this;simp at this;omega
  |cons d ds=>exact⟨d,ds,rfl⟩
 have b:(nums (σ.take i)).length=i:=by rw[kZ,eG];omega
 have f:(nums (σ.drop i)).length=σ.length - i:=by rw[kZ,iF]
 have y:ds.length+1=σ.length - i:=by have:=f;rw[w,kZ]at this;exact this
 have m:nums σ++List.replicate (e+1) .any=nums (σ.take i)++(nums (σ.drop i)++List.replicate (e+1) .any):=by rw[← fC,← RH]
 have q:nums σ++List.replicate (e+1) .any=(nums (σ.take i)++[zI d])++((nums ds++[.any])++List.replicate e .any):=by
  rw[m,w,List.replicate_succ];show nums (σ.take i)++((zI d::nums ds)++ .any::List.replicate e .any)=_;simp only[fC,iW,iE]
 have w1:IntKind.i64.wrap ((↑σ.length:Int)+1)=(↑(σ.length+1):Int):=by rw[lT (by omega) (by omega)];omega
 have C:IntKind.i64.wrap ((↑i:Int)+1)=(↑(i+1):Int):=by rw[lT (by omega) (by omega)];omega
 have v:=JI (E:=E.wo Z) (t:=56) (u:=56) (e:=3) (by kernel_rfl) (by kernel_rfl) (h:=(jK (.cells (nums σ++List.replicate (e+1) .any) 3 true false) (iV num))) (i:=1) (o:=i+1) (l:=σ.length - i) (j:=1) (p:=i) (k:=σ.length+1 - i) (n:=σ.length - i) (c1:=some (k - (i+1))) (c2:=some (k - i)) (cs:=nums (σ.drop i)) (by
  show _=min _ _;omega) (by
  show takeN (nums σ++List.replicate (e+1) .any) i (σ.length - i)=_;rw[m];have:=GR (nums (σ.drop i)) (nums (σ.take i)) (List.replicate (e+1) .any);rwa[b,f]at this)
  (fK (l:=nums σ++List.replicate (e+1) .any) (e:=3) (g:=true) rfl (by simp only[bC,kZ,f,List.length_replicate];omega) (Hu _))
 have D:setAt (nums σ++List.replicate (e+1) .any) (i+1) (nums (σ.drop i))=nums (σ.take i)++([zI d]++(nums (σ.drop i)++List.replicate e .any)):=by
  rw[q];have h:=rF (nums ds++[AV.any]) (nums (σ.drop i)) (nums (σ.take i)++[zI d]) (List.replicate e .any) (by rw[f,bC,kZ];show _=ds.length+1;omega);rw[bC,b]at h;rw[show i+[zI (↑d:Int)].length=i+1 from rfl]at h;rw[h,fC]
 rw[D]at v;have A:=JI (E:=E.wo Z) (t:=56) (u:=56) (e:=3) (by kernel_rfl) (by kernel_rfl) (h:=(jK (.cells (nums (σ.take i)++([zI d]++(nums (σ.drop i)++List.replicate e .any))) 3 true false) (iV num))) (i:=1) (o:=i) (l:=σ.length+1 - i) (j:=0) (p:=0) (k:=1) (n:=1) (c1:=some (k - i)) (c2:=some 1) (cs:=[zI num]) (by
  show 1=min 1 (σ.length+1 - i);omega) rfl
  (fK (l:=nums (σ.take i)++([zI d]++(nums (σ.drop i)++List.replicate e .any))) (e:=3) (g:=true) rfl (by simp only[bC,b,List.length_singleton];omega) rfl)
 have G:setAt (nums (σ.take i)++([zI d]++(nums (σ.drop i)++List.replicate e .any))) i [zI num]=(nums (σ.take i)++zI num::nums (σ.drop i))++List.replicate e .any:=by
  have h:=rF [zI (↑d:Int)] [zI num] (nums (σ.take i)) (nums (σ.drop i)++List.replicate e .any) rfl;rw[b]at h;rw[h];simp
 rw[G]at A;rw[B]at v ⊢;have h1:gQ (E.wo Z) 56 (.sl 1 0 σ.length (some k)) (some (zI (↑i:Int))) none none=some (.sl 1 i (σ.length - i) (some (k - i))):=by
  have:=yj (E:=E.wo Z) (t:=56) (e:=3) (z:=1) (by kernel_rfl) (by kernel_rfl) (id:=1) (n:=σ.length) (c:=k) (k:=↑i) (x:=i) rfl (by omega) (by omega);rwa[bJ]at this
 have H:gQ (E.wo Z) 56 (.sl 1 0 σ.length (some k)) none (some (zI (IntKind.i64.wrap ((↑σ.length:Int)+1)))) none=some (.sl 1 0 (σ.length+1) (some k)):=by
  rw[w1];exact CV (E:=E.wo Z) (t:=56) (e:=3) (z:=1) (by kernel_rfl) (by kernel_rfl) (id:=1) (n:=σ.length) (c:=k) rfl (by omega)
 have I:gQ (E.wo Z) 56 (.sl 1 0 (σ.length+1) (some k)) (some (zI (IntKind.i64.wrap ((↑i:Int)+1)))) none none=some (.sl 1 (i+1) (σ.length - i) (some (k - (i+1)))):=by
  have:=yj (E:=E.wo Z) (t:=56) (e:=3) (z:=1) (by kernel_rfl) (by kernel_rfl) (id:=1) (n:=σ.length+1) (c:=k) (k:=↑(i+1)) (x:=i+1) rfl (by omega) (by omega);rw[bJ,show σ.length+1 - (i+1)=σ.length - i by omega]at this;rw[C];exact this
 have J:gQ (E.wo Z) 56 (.sl 1 0 (σ.length+1) (some k)) (some (zI (↑i:Int))) none none=some (.sl 1 i (σ.length+1 - i) (some (k - i))):=by
  have:=yj (E:=E.wo Z) (t:=56) (e:=3) (z:=1) (by kernel_rfl) (by kernel_rfl) (id:=1) (n:=σ.length+1) (c:=k) (k:=↑i) (x:=i) rfl (by omega) (by omega);rwa[bJ]at this
 refine inp W Y Z F X num σ.length k i r s _ _ h1 H I J v A ?_ ?_
 .simp;omega
 .rw[w1];exact aH (by omega)
end
section
variable(W:Fe)(Y:Ge)(X:∀old,Fw old)(Z:∀old,Gw old)
include W Y X Z
theorem ins_any(old:Old)(h0:0<σ.length)(hi:i<=σ.length)(t:σ.length<=134217728):V4 old σ i:=by
 rcases aT i σ.length with hi|L
 case inr=>
  obtain rfl:i=σ.length:=by omega
  exact acR W Y X Z old h0 t
 intro m N c v num y M p O P V;refine CallM.room (by kernel_rfl) y λk e z q=>?_;rw[kZ]at q;have A:AV.fG 0 (nums σ++List.replicate e .any)=true:=pU (jP (uP σ)) (jP λa B=>by rw[List.eq_of_mem_replicate B];rfl);have r:AV.fG 0 (nums (σ.take i)++zI num::nums (σ.drop i))=true:=pU (jP (uP _)) (by show AV.fG 0 ([zI num]++nums (σ.drop i))=true;exact pU rfl (jP (uP _)));have f:dn m [(c,.cells (nums σ++List.replicate e .any) 3 true false)] c= .cells (nums σ++List.replicate e .any) 3 true false:=aC rfl;have g:dn m [(c,.cells (nums σ++List.replicate e .any) 3 true false)] v= .cells [zI num] 3 false false:=by rw[← M];exact ah (λh=>p h.symm)
 have n:∀j,j≠c->dn m [(c,.cells (nums σ++List.replicate e .any) 3 true false)] j=m j:=λj hj=>ah hj;revert f g n;generalize dn m [(c,.cells (nums σ++List.replicate e .any) 3 true false)]=m1;intro f g n;obtain⟨θ,C⟩:=Pm.mk' (l:=[v,c]) (N:=N) (k:=1) [0,1,2] (by decide) rfl (by decide) (by simp;omega) (by simp;omega) (by omega);obtain⟨t0,t1,t2⟩:θ.to 0=v∧θ.to 1=c∧θ.to 2=N:=by
  have h:[θ.to 0,θ.to 1,θ.to 2]=[v,c,N]:=C;simp only[dM,iM]at h;exact h
 rcases aT k (σ.length+1)with G|G
 .refine CallM.of (Z old) (by kernel_rfl) ?_
  have D:=aaH W Y old (X old) (Z old) (num:=num) (e:=e) hi G z t;refine dL.uy (θ:=θ) (N':=N+1) (l:=[(v,.cells [zI num] 3 false false),(c,.cells (nums σ++List.replicate e .any) 3 true false),(N,.cells (nums (σ.take i)++zI num::nums (σ.drop i)) 3 true false)]) ⟨λx b=>?_,λx b=>?_,λx b H=>?_,λj h1 d=>?_,by omega,rfl,by omega,rfl,rfl⟩ D ⟨by kernel_rfl,by kernel_rfl,by kernel_rfl⟩ ?_ ⟨N,?_,.inr ⟨aj _,by omega⟩,?_,by omega,by omega,λj h1 d s=>?_⟩
  .have b:x∈[(0,AO.cells [zI num] 3 false false),(1,.cells (nums σ++List.replicate e .any) 3 true false)]:=b
   simp only[ay,av,aU]at b;rcases b with rfl|rfl
   .rw[t0,g];rfl
   .rw[t1,f,gW θ A]
  .have b:x∈[(0,AO.cells [zI num] 3 false false),(1,.cells (nums σ++List.replicate e .any) 3 true false)]:=b
   simp only[ay,av,aU]at b;rcases b with rfl|rfl
   .rw[t0];simp
   .rw[t1];simp
  .simp only[ay,av,aU]at b
   rcases b with rfl|rfl|rfl
   .exact⟨0,_,rfl,t0,rfl⟩
   .exact⟨1,_,rfl,t1,gW θ A _ _ _⟩
   .exact⟨2,_,rfl,t2,gW θ r _ _ _⟩
  .have h1:2<=j:=h1
   have d:j<3:=d;obtain rfl:j=2:=by omega
   rw[t2];omega
  .rw[show(Ev.ent (E.wo old) 25 [.sl 1 0 σ.length (some k),zI i,.sl 0 0 1 (some 1)]).ren θ.to=Ev.ent (E.wo old) 25 [.sl (θ.to 1) 0 σ.length (some k),zI i,.sl (θ.to 0) 0 1 (some 1)]from by kernel_rfl,t0,t1]
  .show AV.sl (θ.to 2) 0 (σ.length+1) none=_
   rw[t2]
  .simp only[dn]
   rw[ah (by omega),ah (by omega),aC trivial]
  .simp only[dn]
   rw[ah s,ah d,ah (by omega),n j d]
 .obtain⟨e,rfl⟩:∃Q,e=Q+1:=⟨e - 1,by omega⟩
  refine CallM.tell (R1:=λ_ w o N'=>w= .sl c 0 (σ.length+1) (some k)∧N'=N∧o c= .cells ((nums (σ.take i)++zI num::nums (σ.drop i))++List.replicate e .any) 3 true false∧∀j,j≠c->j≠v->o j=m1 j) ?_ ?_
  .refine CallM.of (Z old) (by kernel_rfl) ?_
   have D:=aaG W Y old (X old) (Z old) (num:=num) (e:=e) hi G q t;have I:AV.fG 0 ((nums (σ.take i)++zI num::nums (σ.drop i))++List.replicate e .any)=true:=pU r (jP λa B=>by rw[List.eq_of_mem_replicate B];rfl);refine dL.uy (θ:=θ) (N':=N) (l:=[(v,.cells [zI num] 3 false false),(c,.cells ((nums (σ.take i)++zI num::nums (σ.drop i))++List.replicate e .any) 3 true false)]) ⟨λx b=>?_,λx b=>?_,λx b H=>?_,λj h1 d=>?_,by omega,rfl,by omega,rfl,rfl⟩ D ⟨by kernel_rfl,by kernel_rfl,by kernel_rfl⟩ ?_ ⟨?_,rfl,?_,λj d s=>?_⟩
   .have b:x∈[(0,AO.cells [zI num] 3 false false),(1,.cells (nums σ++List.replicate (e+1) .any) 3 true false)]:=b
    simp only[ay,av,aU]at b;rcases b with rfl|rfl
    .rw[t0,g];rfl
    .rw[t1,f,gW θ A]
   .have b:x∈[(0,AO.cells [zI num] 3 false false),(1,.cells (nums σ++List.replicate (e+1) .any) 3 true false)]:=b
    simp only[ay,av,aU]at b;rcases b with rfl|rfl
    .rw[t0];simp
    .rw[t1];simp
   .simp only[ay,av,aU]at b
    rcases b with rfl|rfl
    .exact⟨0,_,rfl,t0,rfl⟩
    .exact⟨1,_,rfl,t1,gW θ I _ _ _⟩
   .have h1:2<=j:=h1
    have d:j<2:=d;omega
   .rw[show(Ev.ent (E.wo old) 25 [.sl 1 0 σ.length (some k),zI i,.sl 0 0 1 (some 1)]).ren θ.to=Ev.ent (E.wo old) 25 [.sl (θ.to 1) 0 σ.length (some k),zI i,.sl (θ.to 0) 0 1 (some 1)]from by kernel_rfl,t0,t1]
   .show AV.sl (θ.to 1) 0 (σ.length+1) (some k)=_
    rw[t1]
   .simp only[dn]
    rw[ah p,aC trivial]
   .simp only[dn]
    rw[ah s,ah d]
  .rintro J w o N' _ ⟨rfl,rfl,R,T⟩
   refine⟨.sl c 0 (σ.length+1) none,dn o [(c,.cells (nums (σ.take i)++zI num::nums (σ.drop i)) 3 true false)],⟨c,rfl,.inl rfl,aC rfl,aj _,by omega,λj h1 d s=>?_⟩,λK ι w u U S rv=>Ya U (by kernel_rfl) R ?_ S rv⟩
   .rw[show dn o [(c,.cells (nums (σ.take i)++zI num::nums (σ.drop i)) 3 true false)] j=o j from ah d,T j d s,n j d]
   .simp only[bC,kZ,fB,eG,iF,List.length_replicate];omega
end
end
section
variable{L:List LN}{i:Nat}{v:AV}
theorem Wy{L:List LN}{i:Nat}:∀(ks:List Int) (out:List Int) (s:Nat),i<out.length->(∀j,j<i->out[j]? =some (↑(tr L j).size:Int))->out[i]? =some (↑s:Int)->(∀k∈ks,0<=k∧k<(↑i:Int))->s+Yb L ks<=65537->Md i out ks=some (out.set i (↑(s+Yb L ks):Int))
 |[],out,s,a,hj,hi,_,_=>by
  show some out=some (out.set i (↑(s+0):Int));rw[Nat.add_zero];congr 1;obtain⟨h1,c⟩:=aA.1 hi;rw[← c,List.set_getElem_self]
 |k::ks,out,s,a,hj,hi,b,d=>by
  rw[QK]at d;obtain⟨k0,k1⟩:=b k (dA ..);show(if k<0∨(i:Int)<=k then none else Md i (out.set i (mn (out[i]?.getD 0+out[k.toNat]?.getD 0))) ks)=_;rw[ah (by omega),hi,hj k.toNat (by omega)];have e:mn ((some (↑s:Int)).getD 0+(some (↑(tr L k.toNat).size:Int)).getD 0)=↑(s+(tr L k.toNat).size):=by
   show mn ((↑s:Int)+↑(tr L k.toNat).size)=_;rw[afZ (by omega)];omega
  rw[e,Wy ks (out.set i ↑(s+(tr L k.toNat).size)) (s+(tr L k.toNat).size) (by rw[iT];exact a) (λj h=>by rw[List.getElem?_set_ne (by omega)];exact hj j h) (by rw[List.getElem?_set_self a]) (λk h=>b k (aY _ h)) (by omega),List.set_set,QK,oV]
theorem ZC{L:List LN}(f:WF L)(m:∀j,j<L.length->(tr L j).size<=65536):∀(c:List LN) (i:Nat) (out:List Int),L.drop i=c->out.length=L.length->(∀j,j<i->out[j]? =some (↑(tr L j).size:Int))->∃a,szO i c out=some a∧∀j,j<L.length->a[j]? =some (↑(tr L j).size:Int)
 |[],i,out,b,n,hj=>⟨out,rfl,λj h=>hj j (by
  have:=gu List.length b;rw[iF]at this;simp at this;omega)⟩
 |l::c,i,out,b,n,hj=>by
  have hi:i<L.length:=by
   rcases aT i L.length with h|h
   .exact h
   .rw[gG h]at b;cases b
  rw[bn hi]at b;injection b with h1 p;have d:L[i]? =some l:=by rw[aI hi,h1]
  have g:(tr L i).size=1+Yb L l.kids:=by
   rw[Nb f d];show eX _+1=1+Yb L l.kids;unfold Yb;omega
  have q:=m i hi;have e:=Wy (L:=L) (i:=i) l.kids (out.set i 1) 1 (by rw[iT];omega) (λj h=>by rw[List.getElem?_set_ne (by omega)];exact hj j h) (by rw[List.getElem?_set_self (by omega)];rfl) (f i l d) (by omega);show ∃a,(match Md i (out.set i 1) l.kids with |none=>none|some o=>szO (i+1) c o)=some a∧_;rw[e];refine ZC f m c (i+1) _ p (by rw[iT,iT,n]) λj h=>?_;rw[List.set_set];by_cases k:j=i
  .subst k
   rw[List.getElem?_set_self (by omega),← g]
  .rw[List.getElem?_set_ne (by omega)]
   exact hj j (by omega)
section
variable(W:Fe)(Y:Ge)(X:∀old,Fw old)(Z:∀old,Gw old)
include W Y X Z
theorem Na{old:Old}{t:T}(C:UH old v L)(D:xW [] t L i)(F:t.size<=65536)(G:L.length<=t.size)(g:UG L){m:Int}(h0:0<m)(h1:m<=65536):
 jV prog E old 9 [v,zI (↑i:Int),zI m] (λa w=>(m<↑t.size∧w= .gI [zT,zI 151])∨(↑t.size<=m∧∃u,w= .gI [u,zI 0]∧JO a u t)):=by
 obtain⟨q,H,hi,f,y⟩:=Tt D;obtain⟨cs,⟨b,o,c,rfl,z⟩|⟨rfl,e,_⟩,A⟩:=C
 .obtain⟨out,I,n⟩:=ZC q (λj hj=>aS (y j hj) F) L 0 (List.replicate L.length 0) rfl (List.length_replicate ..) (λj h=>by omega)
  have B:=n i (by omega);rw[f]at B;have d:∀l∈L,l.kids.length<=65536:=λl J=>by
   obtain⟨j,hj⟩:=List.mem_iff_getElem?.1 J;have r:=(aA.1 hj).1;have h1:=y j r;rw[Nb q hj]at h1;have N:eX (l.kids.map λ(k:Int)=>tr L k.toNat)+1<=t.size:=h1;have K:=pV (l.kids.map λ(k:Int)=>tr L k.toNat);rw[dZ]at K;omega
  refine c12 W Y X Z (lc:=c) A z (by omega) (λl h=>aS (d l h) (by decide)) I B (by omega) h0 h1 (λs a=> .inl ⟨s,rfl⟩) (λs=>⟨t,λa p=>?_,λa w M=> .inr ⟨s,w,rfl,M⟩⟩);have:=c36 W Y X Z (lc:=c) (fu:=i+1) (x:=i) (A.mono p) (nI p z) (λl h=>⟨(g l h).1,aS (d l h) (by decide)⟩) (aam q (i+1) i (by omega) (by omega)) (by
   show(tr L i).size<=_;rw[f];omega)
  rw[show xX L (i+1) i=t from f]at this;exact this
 .omega
end
end
section
variable(Y:Fe)(Z:Ge)
include Y Z
section
variable(X:Old)(F:Fw X)(W:Gw X)
include X F W
theorem cpn(b a n c:Nat)(cs:List AV)(d:gX (E.wo X) ⟨.e,0,0⟩ .append [.aQ,.aO (some (b,a)) n c] [22,22]=some (.val (.sl 0 0 n none) ⟨zL (MU cs),1,0⟩)):DR X (ent (E.wo X) 51 [.aO (some (b,a)) n c]) ⟨.e,0,0⟩ (.sl 0 0 n none) (je (MU cs)):=
 prt F W (Ql 12 d (Qn 8)) (by kernel_rfl)
theorem cpz(b a c:Nat)(d:gX (E.wo X) ⟨.e,0,0⟩ .append [.aQ,.aO (some (b,a)) 0 c] [22,22]=some (.val .aQ ⟨.e,0,0⟩)):DR X (ent (E.wo X) 51 [.aO (some (b,a)) 0 c]) ⟨.e,0,0⟩ .aQ ⟨.e,0,0⟩:=
 prt F W (Qn 21) (by kernel_rfl)
theorem cp0:DR X (ent (E.wo X) 51 [.aO none 0 0]) ⟨.e,0,0⟩ .aQ ⟨.e,0,0⟩:=
 prt F W (Qn 21) (by kernel_rfl)
theorem cfn(rel:List UInt8)(b a n c:Nat)(cs:List AV)(d:DC X 51 [.aO (some (b,a)) n c] (jK Ir (UA rel b a n c)) (.sl 2 0 n none) (dJ Ir (UA rel b a n c) (MU cs))):DR X (ent (E.wo X) 17 [.agg [.str rel,.aO (some (b,a)) n c]]) ⟨.e,0,0⟩ (.agg [.str rel,.sl 2 0 n none]) (dJ (.cells [.str rel,.sl 2 0 n none] 24 false false) (UA rel b a n c) (MU cs)):=
 prt F W (Qd 6 [.c,.c,.c,.c,.k (.sl 2 0 n none) (dJ Ir (UA rel b a n c) (MU cs)),.c,.c] (Qp d (Qs (.aO (some (b,a)) n c) (Qs (.str rel) (Qs (.str rel) (Qn 1)))))) (by kernel_rfl)
theorem cfz(rel:List UInt8)(p:Option (Nat×Nat))(c:Nat)(a:DC X 51 [.aO p 0 c] (jK Ir (.cells [.str rel,.aO p 0 c] 24 false false)) .aQ (jK Ir (.cells [.str rel,.aO p 0 c] 24 false false))):DR X (ent (E.wo X) 17 [.agg [.str rel,.aO p 0 c]]) ⟨.e,0,0⟩ (UR rel) (jK (.cells [.str rel,.aQ] 24 false false) (.cells [.str rel,.aO p 0 c] 24 false false)):=
 prt F W (Qd 6 [.c,.c,.c,.c,.k .aQ (jK Ir (.cells [.str rel,.aO p 0 c] 24 false false)),.c,.c] (Qp a (Qs (.aO p 0 c) (Qs (.str rel) (Qs (.str rel) (Qn 1)))))) (by kernel_rfl)
end
end
section
variable(Y:Fe)(Z:Ge)
include Y Z
section
variable(U:Old)(F:Fw U)(O:Gw U)(W:List UInt8)(T:Option (Nat×Nat))(V S:Nat)(X:Int)(R:Option (Nat×Nat))(Q P:Nat)(left:Int)
include U F O W T V S X R Q P left
theorem cxa(cs:List AV)(a:DC U 17 [l9 W T V S] (dJ (eF W T V S X R Q P) (.cells [zI (IntKind.i64.wrap (IntKind.i64.wrap (left - 1) - (↑V:Int)))] 3 false false) uZ) (.agg [.str W,.sl 3 0 V none]) (lD (MU cs) (eF W T V S X R Q P) (.cells [zI (IntKind.i64.wrap (IntKind.i64.wrap (left - 1) - (↑V:Int)))] 3 false false) uZ)):DS U (ent (E.wo U) 5 [kR W T V S X R Q P,.ptr 0 0]) (je (iV left)) (X0 (zP 0 0) (zP 4 0) (zP 2 0) (zP 1 0) (zI 0)) (xG (MU cs) (eF W T V S X R Q P) (.cells [zI (IntKind.i64.wrap (IntKind.i64.wrap (left - 1) - (↑V:Int)))] 3 false false) (.cells [.str W,.sl 3 0 V none,zI X,.aQ] 27 false false) uZ):=
 qH F O [1,2,4,5,6] (Qd 6 [.c,.c,.c,.c,.c,.c,.c,.c,.c,.c,.c,.c] (Qs (zI (↑V:Int)) (Qs (.aO T V S) (Qs (zI left) (Qd 1 [.c,.c,.k (.agg [.str W,.sl 3 0 V none]) (lD (MU cs) (eF W T V S X R Q P) (.cells [zI (IntKind.i64.wrap (IntKind.i64.wrap (left - 1) - (↑V:Int)))] 3 false false) uZ),.c,.c,.c,.c,.c] (Qp a (Qs (zI X) (Qs (zI X) (Qs (l9 W T V S) (Qn 7)))))))))) (by kernel_rfl)
theorem cxz(a:DC U 17 [l9 W T V S] (dJ (eF W T V S X R Q P) (.cells [zI (IntKind.i64.wrap (IntKind.i64.wrap (left - 1) - (↑V:Int)))] 3 false false) uZ) (UR W) (dJ (eF W T V S X R Q P) (.cells [zI (IntKind.i64.wrap (IntKind.i64.wrap (left - 1) - (↑V:Int)))] 3 false false) uZ)):DS U (ent (E.wo U) 5 [kR W T V S X R Q P,.ptr 0 0]) (je (iV left)) (X0 (zP 0 0) (zP 3 0) (zP 2 0) (zP 1 0) (zI 0)) (lD (.cells [.str W,.aQ,zI X,.aQ] 27 false false) (eF W T V S X R Q P) (.cells [zI (IntKind.i64.wrap (IntKind.i64.wrap (left - 1) - (↑V:Int)))] 3 false false) uZ):=
 qH F O [1,2,4,5,6] (Qd 6 [.c,.c,.c,.c,.c,.c,.c,.c,.c,.c,.c,.c] (Qs (zI (↑V:Int)) (Qs (.aO T V S) (Qs (zI left) (Qd 1 [.c,.c,.k (UR W) (dJ (eF W T V S X R Q P) (.cells [zI (IntKind.i64.wrap (IntKind.i64.wrap (left - 1) - (↑V:Int)))] 3 false false) uZ),.c,.c,.c,.c,.c] (Qp a (Qs (zI X) (Qs (zI X) (Qs (l9 W T V S) (Qn 7)))))))))) (by kernel_rfl)
end
end
section
variable(Y:Fe)(Z:Ge)
include Y Z
section
variable(V:Old)(F:Fw V)(N:Gw V)(W:List UInt8)(R:Option (Nat×Nat))(Q O:Nat)(X:Int)(S:Option (Nat×Nat))(U P:Nat)(T:Int)(i:Nat)
include V F N W R Q O X S U P T i
theorem cx1(u0 u1 u2 u3:AV)(a:(decide ((↑i:Int)<(↑U:Int)))=true)(b:(decide (T>0))=true):DS V (abE i) (abC (.cells [u0,u1,u2,u3] 27 false false) (eF W R Q O X S U P) (iV T)) ⟨⟨5,false,none,50⟩,zO (zN .e (zP 0 0) (zL (zP 3 0))) (zN (zL (zP 2 0)) (zP 1 0) (zL (zI (↑i:Int)))),[.code (iQ f5 [1,1,1,0,1,0,0,1,0,0]),.inBlock 1,.code (iQ f5 [1,1,1,0,1,0,0,1,1]),.inLoop (iQ f5 [1,1,1,0,1,0,0]),.inBlock 0,.code (iQ f5 [1,1,1,1])],[],false⟩ (abC (.cells [u0,u1,u2,u3] 27 false false) (eF W R Q O X S U P) (iV T)):=
 qH F N [1,2,4,5,6] (Qb 7 a (Qb 4 b (Qn 6))) (by kernel_rfl)
theorem cx2(a:Option (Nat×Nat))(b c:Nat)(d:Option (Nat×Nat))(e f:Nat)(g:(decide ((↑i:Int)<(↑U:Int)))=false):DR V (abE i) (lD (eF W a b c X d e f) (eF W R Q O X S U P) (iV T) uZ) (kR W a b c X d e f) (lD (eF W a b c X d e f) (eF W R Q O X S U P) (iV T) (eF W a b c X d e f)):=
 prt F N (Qb 7 g (Qn 15)) (by kernel_rfl)
theorem cx3(a:Option (Nat×Nat))(b c:Nat)(d:Option (Nat×Nat))(e f:Nat)(g:(decide ((↑i:Int)<(↑U:Int)))=true)(h:(decide (T>0))=false):DR V (abE i) (lD (eF W a b c X d e f) (eF W R Q O X S U P) (iV T) uZ) (kR W a b c X d e f) (lD (eF W a b c X d e f) (eF W R Q O X S U P) (iV T) (eF W a b c X d e f)):=
 prt F N (Qb 7 g (Qb 4 h (Qn 10))) (by kernel_rfl)
end
end
section
variable(Y:Fe)(Z:Ge)
include Y Z
theorem cy5(old:Old)(F:Fw old)(FF:Gw old)(l1 l2 o p a b c d f g h j k l m n:AV)(i:Nat):DS old ⟨⟨5,false,none,50⟩,zO (zN (zO (zO (zO .e (zL m)) (zO (zL c) .e)) (zO .e (zO (zL h) .e))) l1 (zN (zO .e (zO (zL f) .e)) p (zO (zO (zL a) .e) (zO (zL k) .e)))) (zN (zN (zO (zO .e (zL n)) (zO (zL d) .e)) o (zO .e (zO (zL j) .e))) l2 (zN (zO .e (zO (zL g) .e)) (zI (↑i:Int)) (zO (zO (zL b) .e) (zO (zL l) .e)))),[.inBlock 1,.code (iQ f5 [1,1,1,0,1,0,0,1,1]),.inLoop (iQ f5 [1,1,1,0,1,0,0]),.inBlock 0,.code (iQ f5 [1,1,1,1])],[],false⟩ ⟨.e,0,0⟩ (X0 l1 p o l2 (zI (IntKind.i64.wrap ((↑i:Int)+1)))) ⟨.e,0,0⟩:=
 qH F FF [1,2,4,5,6] (Qn 7) (by kernel_rfl)
end
section
variable{h:AH}
noncomputable def opAt (a : Array Oper) (i : Nat) : Oper := match a[i]? with | some o => o | none => ⟨none, .alloc 0, 0, "", #[], none⟩
def L6:AX:=⟨5,false,none,50⟩
noncomputable def jd:Array Oper:=xY f5 [1,1,1,0,1,0,0,1,0,0]
noncomputable def cyK:List AI:=[.inBlock 1,.code (iQ f5 [1,1,1,0,1,0,0,1,1]),.inLoop (iQ f5 [1,1,1,0,1,0,0]),.inBlock 0,.code (iQ f5 [1,1,1,1])]
noncomputable def ae1:List AI:= .code (iQ f5 [1,1,1,0,1,0,0,1,0,0])::cyK
noncomputable def ahU:List AI:=ag7
noncomputable def PW(l1 l2 a b i:AV):Tr AV:=(zO (zN .e l1 (zL b)) (zN (zL a) l2 (zL i)))
noncomputable def ae0(l1 l2 o p i a b c d f g h j k l m n:AV):Tr AV:=(zO (zN (zO (zO (zO .e (zL m)) (zO (zL c) .e)) (zO .e (zO (zL h) .e))) l1 (zN (zO .e (zO (zL f) .e)) p (zO (zO (zL a) .e) (zO (zL k) .e)))) (zN (zN (zO (zO .e (zL n)) (zO (zL d) .e)) o (zO .e (zO (zL j) .e))) l2 (zN (zO .e (zO (zL g) .e)) i (zO (zO (zL b) .e) (zO (zL l) .e)))))
section
variable(T:Old)(W:List UInt8)(P:Option (Nat×Nat))(O M:Nat)(Z:Int)(X Y V U:Nat)(N:Int)(i:Nat)(L:List AV)(G H J K Q R S:AV)
noncomputable def Ey(a:AV):List AV:=[zP 3 3,a,zP 1 3,.aO (some (X,Y)) V U,zI (↑i:Int),zP (OLD+X) (Y+i*4),.agg L,zP 0 0]
noncomputable def La:AH:=(abC (.cells [Q,R,S,.aQ] 27 false false) (sQ W P O M Z X Y V U) (iV N))
noncomputable def agu:AH:=⟨zN (zN (zL (.cells [Q,R,S,.sl 5 0 1 none] 27 false false)) (sQ W P O M Z X Y V U) (zL (.cells [G,H,J,K] 27 true false))) (iV N) (zO (zL (.cells [G,H,J,K] 27 false false)) .e),6,0⟩
noncomputable def KZ(j:Nat)(a:List AV):AH:=⟨zN (zN (zL (.cells [Q,R,S,.sl 4 0 j none] 27 false false)) (sQ W P O M Z X Y V U) .e) (iV N) (zO (zL (.cells a 27 true false)) .e),5,0⟩
noncomputable def agv(j:Nat)(a:List AV):AH:=⟨zN (zN (zL (.cells [Q,R,S,.sl 4 0 j none] 27 false false)) (sQ W P O M Z X Y V U) (zL (.cells [G,H,J,K] 27 false false))) (iV N) (zO (zL (.cells a 27 true false)) .e),6,0⟩
noncomputable def agw(j:Nat)(b:List AV)(a:List AV):AH:=⟨zN (zN (zL (.cells [Q,R,S,.sl 4 0 j none] 27 false false)) (sQ W P O M Z X Y V U) (zL (.cells [G,H,J,K] 27 false false))) (iV N) (zO (zL .dead) (zL (.cells a 27 true false))),7,0⟩
noncomputable def agt(j:Nat)(b:List AV)(a:List AV):AH:=⟨zN (zN (zL (.cells [Q,R,S,.sl 6 0 (j+1) none] 27 false false)) (sQ W P O M Z X Y V U) (zL (.cells [G,H,J,K] 27 false false))) (iV N) (zO (zL .dead) (zL (.cells a 27 true false))),7,0⟩
theorem XI(a:aZ (E.wo T) 25 (nP (E.wo T) (.aO (some (X,Y)) V U)) (zI (↑i:Int))=some (zP (OLD+X) (Y+i*4)))(b:loadT (E.wo T) (La W P O M Z X Y V U N Q R S) 27 (OLD+X) (Y+i*4)=some (.agg L)):All (zX (E.wo T) L6 jd (La W P O M Z X Y V U N Q R S) (PW (.ptr 0 0) (.ptr 1 0) (.ptr 2 0) (.ptr 3 0) (zI (↑i:Int))) (jd.toList.take 8) (Ey X Y V U i L .aQ)):=by
 have e:zX (E.wo T) L6 jd (La W P O M Z X Y V U N Q R S) (PW (.ptr 0 0) (.ptr 1 0) (.ptr 2 0) (.ptr 3 0) (zI (↑i:Int))) (jd.toList.take 8) (Ey X Y V U i L .aQ)=[some true=some true,false=false,(some (zP 3 3):Option AV)=some (zP 3 3),some true=some true,false=false,(some (.aQ):Option AV)=some (.aQ),some true=some true,false=false,(some (zP 1 3):Option AV)=some (zP 1 3),some true=some true,false=false,(some (.aO (some (X,Y)) V U):Option AV)=some (.aO (some (X,Y)) V U),some true=some true,false=false,(some (zI (↑i:Int)):Option AV)=some (zI (↑i:Int)),some true=some true,false=false,aZ (E.wo T) 25 (nP (E.wo T) (.aO (some (X,Y)) V U)) (zI (↑i:Int))=some (zP (OLD+X) (Y+i*4)),some true=some true,false=false,loadT (E.wo T) (La W P O M Z X Y V U N Q R S) 27 (OLD+X) (Y+i*4)=some (.agg L),some true=some true,false=false,(some (zP 0 0):Option AV)=some (zP 0 0)]:=by kernel_rfl
 rw[e];exact⟨rfl,rfl,rfl,rfl,rfl,rfl,rfl,rfl,rfl,rfl,rfl,rfl,rfl,rfl,rfl,rfl,rfl,a,rfl,rfl,b,rfl,rfl,rfl⟩
theorem TU:fQ (opAt jd 8).op (E.wo T) (ng L6 (PW (.ptr 0 0) (.ptr 1 0) (.ptr 2 0) (.ptr 3 0) (zI (↑i:Int))) (jd.toList.take 8) (Ey X Y V U i L .aQ)) (La W P O M Z X Y V U N Q R S)=some (.call 5 [.agg L,.ptr 0 0]):=by kernel_rfl
theorem aa0:dU (opAt jd 8) jd (ng L6 (PW (.ptr 0 0) (.ptr 1 0) (.ptr 2 0) (.ptr 3 0) (zI (↑i:Int))) (jd.toList.take 8) (Ey X Y V U i L .aQ))=some true:=by kernel_rfl
theorem XH(j:Nat)(a:List AV)(b:aZ (E.wo T) 25 (nP (E.wo T) (.aO (some (X,Y)) V U)) (zI (↑i:Int))=some (zP (OLD+X) (Y+i*4)))(c:loadT (E.wo T) (KZ W P O M Z X Y V U N Q R S j a) 27 (OLD+X) (Y+i*4)=some (.agg L)):All (zX (E.wo T) L6 jd (KZ W P O M Z X Y V U N Q R S j a) (PW (.ptr 0 0) (.ptr 1 0) (.ptr 2 0) (.ptr 3 0) (zI (↑i:Int))) (jd.toList.take 8) (Ey X Y V U i L (.sl 4 0 j none))):=by
 have e:zX (E.wo T) L6 jd (KZ W P O M Z X Y V U N Q R S j a) (PW (.ptr 0 0) (.ptr 1 0) (.ptr 2 0) (.ptr 3 0) (zI (↑i:Int))) (jd.toList.take 8) (Ey X Y V U i L (.sl 4 0 j none))=[some true=some true,false=false,(some (zP 3 3):Option AV)=some (zP 3 3),some true=some true,false=false,(some ((.sl 4 0 j none)):Option AV)=some ((.sl 4 0 j none)),some true=some true,false=false,(some (zP 1 3):Option AV)=some (zP 1 3),some true=some true,false=false,(some (.aO (some (X,Y)) V U):Option AV)=some (.aO (some (X,Y)) V U),some true=some true,false=false,(some (zI (↑i:Int)):Option AV)=some (zI (↑i:Int)),some true=some true,false=false,aZ (E.wo T) 25 (nP (E.wo T) (.aO (some (X,Y)) V U)) (zI (↑i:Int))=some (zP (OLD+X) (Y+i*4)),some true=some true,false=false,loadT (E.wo T) (KZ W P O M Z X Y V U N Q R S j a) 27 (OLD+X) (Y+i*4)=some (.agg L),some true=some true,false=false,(some (zP 0 0):Option AV)=some (zP 0 0)]:=by kernel_rfl
 rw[e];exact⟨rfl,rfl,rfl,rfl,rfl,rfl,rfl,rfl,rfl,rfl,rfl,rfl,rfl,rfl,rfl,rfl,rfl,b,rfl,rfl,c,rfl,rfl,rfl⟩
theorem TQ(j:Nat)(a:List AV):fQ (opAt jd 8).op (E.wo T) (ng L6 (PW (.ptr 0 0) (.ptr 1 0) (.ptr 2 0) (.ptr 3 0) (zI (↑i:Int))) (jd.toList.take 8) (Ey X Y V U i L (.sl 4 0 j none))) (KZ W P O M Z X Y V U N Q R S j a)=some (.call 5 [.agg L,.ptr 0 0]):=by kernel_rfl
theorem aaZ(j:Nat)(a:List AV):dU (opAt jd 8) jd (ng L6 (PW (.ptr 0 0) (.ptr 1 0) (.ptr 2 0) (.ptr 3 0) (zI (↑i:Int))) (jd.toList.take 8) (Ey X Y V U i L (.sl 4 0 j none)))=some true:=by kernel_rfl
theorem aa3:y8 prog (E.wo T) L6 (Region.before jd) jd (La W P O M Z X Y V U N Q R S) [.c,.c,.c,.c] (jd.toList.drop 9) 9 (fin L6 (opAt jd 8).dst (.agg [G,H,J,K]) (ng L6 (PW (.ptr 0 0) (.ptr 1 0) (.ptr 2 0) (.ptr 3 0) (zI (↑i:Int))) (jd.toList.take 8) (Ey X Y V U i L .aQ))) (Ku L6 0 (PW (.ptr 0 0) (.ptr 1 0) (.ptr 2 0) (.ptr 3 0) (zI (↑i:Int))) (jd.toList.take 8) (Ey X Y V U i L .aQ) []) [(8,(La W P O M Z X Y V U N Q R S))] [] (La W P O M Z X Y V U N Q R S)=some ((ae0 (.ptr 0 0) (.ptr 1 0) (.ptr 2 0) (.ptr 3 0) (zI (↑i:Int)) (zP 3 3) .aQ (zP 1 3) (.aO (some (X,Y)) V U) (zI (↑i:Int)) (zP (OLD+X) (Y+i*4)) (.agg L) (zP 0 0) (.agg [G,H,J,K]) (.sl 4 0 1 (some 1)) (.sl 5 0 1 none) (zP 3 3)),agu W P O M Z X Y V U N G H J K Q R S,[loadT (E.wo T) (La W P O M Z X Y V U N Q R S) 27 (OLD+X) (Y+i*4)=some (.agg L),(some (.aO (some (X,Y)) V U):Option AV)=some (.aO (some (X,Y)) V U),(some .aQ:Option AV)=some .aQ,(some .aQ:Option AV)=some .aQ]):=by kernel_rfl
theorem aa2(j:Nat)(a b:List AV):y8 prog (E.wo T) L6 (Region.before jd) jd (KZ W P O M Z X Y V U N Q R S j a) [.c,.l (.sl 6 0 (j+1) none) (agw W P O M Z X Y V U N G H J K Q R S j a b),.c,.c] (jd.toList.drop 9) 9 (fin L6 (opAt jd 8).dst (.agg [G,H,J,K]) (ng L6 (PW (.ptr 0 0) (.ptr 1 0) (.ptr 2 0) (.ptr 3 0) (zI (↑i:Int))) (jd.toList.take 8) (Ey X Y V U i L (.sl 4 0 j none)))) (Ku L6 0 (PW (.ptr 0 0) (.ptr 1 0) (.ptr 2 0) (.ptr 3 0) (zI (↑i:Int))) (jd.toList.take 8) (Ey X Y V U i L (.sl 4 0 j none)) []) [(8,(KZ W P O M Z X Y V U N Q R S j a))] [] (KZ W P O M Z X Y V U N Q R S j a)=some ((ae0 (.ptr 0 0) (.ptr 1 0) (.ptr 2 0) (.ptr 3 0) (zI (↑i:Int)) (zP 3 3) (.sl 4 0 j none) (zP 1 3) (.aO (some (X,Y)) V U) (zI (↑i:Int)) (zP (OLD+X) (Y+i*4)) (.agg L) (zP 0 0) (.agg [G,H,J,K]) (.sl 5 0 1 (some 1)) (.sl 6 0 (j+1) none) (zP 3 3)),agt W P O M Z X Y V U N G H J K Q R S j a b,[some true=some true,(none:Option AV)=none,gX (E.wo T) (agv W P O M Z X Y V U N G H J K Q R S j a) .append [.sl 4 0 j none,.sl 5 0 1 (some 1)] [25,25]=some (.val (.sl 6 0 (j+1) none) (agw W P O M Z X Y V U N G H J K Q R S j a b)),loadT (E.wo T) (KZ W P O M Z X Y V U N Q R S j a) 27 (OLD+X) (Y+i*4)=some (.agg L),(some (.aO (some (X,Y)) V U):Option AV)=some (.aO (some (X,Y)) V U),(some (.sl 4 0 j none):Option AV)=some (.sl 4 0 j none),(some (.sl 4 0 j none):Option AV)=some (.sl 4 0 j none)]):=by kernel_rfl
theorem XG(a:AV):iZ (E.wo T) ⟨L6,a |> λb=>PW (.ptr 0 0) (.ptr 1 0) b (.ptr 3 0) (zI (↑i:Int)),ae1,[],false⟩ h=some (.drawn L6 (PW (.ptr 0 0) (.ptr 1 0) a (.ptr 3 0) (zI (↑i:Int))) jd cyK [] h):=by kernel_rfl
end
theorem aa1:wS jd.toList (Region.before jd) jd=true:=by kernel_rfl
theorem aa4:jd[8]? =some (opAt jd 8):=by kernel_rfl
theorem PU:jd.size=13:=by kernel_rfl
theorem aa5(i:Nat)(h:8<i)(h':i<jd.size):Bf jd i 8:=by
 rw[PU]at h';have:i=9∨i=10∨i=11∨i=12:=by omega
 have d:((Region.before jd).getD 9 0).testBit 8=true:=by kernel_rfl
 have a:((Region.before jd).getD 10 0).testBit 8=true:=by kernel_rfl
 have b:((Region.before jd).getD 11 0).testBit 8=true:=by kernel_rfl
 have c:((Region.before jd).getD 12 0).testBit 8=true:=by kernel_rfl
 rcases this with rfl|rfl|rfl|rfl
 .exact d
 .exact a
 .exact b
 .exact c
theorem ags:∃a nt b ex,E.ft.get 5=some ⟨some a,nt,b,ex⟩:=⟨_,_,_,_,by rfl⟩
end
section
variable{b bb n:Nat}{cells:List AV}{e tx:TypeId}{h:AH}
theorem Uj{E:Env}{ts:TypeId}(a:E.d ts=some (.slice e))(g:(E.tt.get tx).map (λt=>match t.d with | .int _=>true|_=>false)=some false)(i:(E.tt.get e).map (λt=>(t.size,t.bytes))=some (3,32))(b:E.peek=true){o c:Nat}(h0:0<n)(y:n*32<=140737488355328)(j:iI E.old bb o (n*3)=some cells):
 gX E h .append [.aQ,.aO (some (bb,o)) n c] [ts,tx]=some (.val (.sl h.nx 0 n none) (h.new (.cells cells e true false))):=by
 obtain⟨k,l,m⟩:=aP.1 i;obtain⟨q,r,s⟩:=aP.1 g;obtain⟨z,A,B,C⟩:=k;cases m;show(l7 E h ts tx .aQ (nP E (.aO (some (bb,o)) n c))).map (λp=>OR.val p.1 p.2)=_;unfold l7;cases f:E.tt.get ts with
 |none=>unfold Env.d at a;rw[f]at a;cases a
 |some ti=>
  obtain⟨d,sz,D,G⟩:=ti;have u:d= .slice e:=by unfold Env.d at a;rw[f]at a;exact aN a
  subst u;rw[r];simp only[];rw[l];simp only[];have v:VJ .aQ n 32=false:=by
   show Nat.blt 140737488355328 (n*32)=false;cases h:Nat.blt 140737488355328 (n*32)with
   |false=>rfl
   |true=>rw[dB]at h;omega
  obtain⟨w,H,I,J⟩:=q;have x:Nat.beq n 0=false:=by cases n with |zero=>omega|succ n=>rfl
  cases w
  case int=>cases s
  all_goals
   show Option.map (λ(p:AV×AH)=>OR.val p.1 p.2) (match Me E h 3 (nP E (AV.aO (some (bb,o)) n c))with
    |none=>none
    |some (n,c)=>cond (VJ AV.aQ n 32) none (cond (Nat.beq n 0) (some (AV.aQ,h)) (some (AV.sl h.nx 0 n none,h.new (AO.cells c e true false)))))=_
   rw[Bd b j];show Option.map (λ(p:AV×AH)=>OR.val p.1 p.2) (cond (VJ AV.aQ n 32) none (cond (Nat.beq n 0) (some (AV.aQ,h)) (some (AV.sl h.nx 0 n none,h.new (AO.cells cells e true false)))))=_;rw[v,x];rfl
section
variable(W:Fe)(Y:Ge)(Z:Old)(F:Fw Z)(X:Gw Z)
include W Y F X
theorem ah2{o c:Nat}{l:List PV}(a:iI Z b o (l.length*3)=some (fH l))(h0:0<l.length)(d:l.length*32<=140737488355328):
 DC Z 51 [.aO (some (b,o)) l.length c] eH (.sl 0 0 l.length none) ⟨zL (.cells (fH l) 101 true false),1,0⟩:=
 DoesC.ent X (by kernel_rfl) (cpn W Y Z F X b o l.length c (fH l) (Uj (by kernel_rfl) (by kernel_rfl) (by kernel_rfl) rfl h0 d a))
theorem c51{o c:Nat}{l:List PV}(d:iI Z b o (l.length*3)=some (fH l))(h0:0<l.length)(f:l.length*32<=140737488355328):∀{h:AH} {n:Nat},h.nx=n->Nat.blt n OLD=true->h.df=0->posB (λi=>Nat.blt i n) h.tr=true->
 DC Z 51 [.aO (some (b,o)) l.length c] h (.sl n 0 l.length none) (h.new (.cells (fH l) 101 true false)):=by
 intro h n e g a hp;subst e;have j:=jP (jg l);refine DoesC.PG (ah2 W Y Z F X (c:=c) d h0 f) rfl rfl (by show AO.cells _ _ _ _=_;rw[AV.kF (λi h=>EN _ i h) j]) a g (λi o e _=>aJ (qJ hp e)) ?_;have u0:Mc h.nx 0=h.nx:=by unfold Mc;rw[show Nat.ble OLD 0=false from rfl];exact fA _
 show AV.sl (Mc h.nx 0) 0 l.length none=_;rw[u0]
theorem ah1(p:Option (Nat×Nat))(c:Nat)(hp:p=none->c=0)(a:h.df=0)(b:Nat.ble h.nx OLD=true):DC Z 51 [.aO p 0 c] h .aQ h:=by
 refine DoesC.ov ?_ rfl rfl a b;cases p with
 |none=>obtain rfl:=hp rfl;exact DoesC.ent X (by kernel_rfl) (cp0 W Y Z F X)
 |some p=>exact DoesC.ent X (by kernel_rfl) (cpz W Y Z F X p.1 p.2 c (Ui (e:=101) (sz:=3) (by kernel_rfl) rfl))
theorem ah8(r:List UInt8){o c:Nat}{l:List PV}(d:iI Z b o (l.length*3)=some (fH l))(h0:0<l.length)(e:l.length*32<=140737488355328):
 DC Z 17 [.agg [.str r,.aO (some (b,o)) l.length c]] eH (.agg [.str r,.sl 0 0 l.length none]) ⟨zL (.cells (fH l) 101 true false),1,0⟩:=by
 have a:=jP (jg l);have hr:AV.jM (AQ 2) (fH l)=fH l:=AV.kF (λi h=>rY h) a;exact DoesC.sel (k:=2) (DoesC.ent X (by kernel_rfl) (cfn W Y Z F X r b o l.length c (fH l) (c51 W Y Z F X d h0 e rfl rfl rfl (by kernel_rfl)))) (by kernel_rfl) (by kernel_rfl) rfl rfl (by show AO.cells _ _ _ _=_;rw[hr]) (by show(AV.fG 1 (fH l)&&true)=true;rw[AV.qI a];rfl) rfl (by rfl)
theorem c17(r:List UInt8){o c:Nat}{l:List PV}(d:iI Z b o (l.length*3)=some (fH l))(h0:0<l.length)(f:l.length*32<=140737488355328):∀{h:AH} {n:Nat},h.nx=n->Nat.blt n OLD=true->h.df=0->posB (λi=>Nat.blt i n) h.tr=true->
 DC Z 17 [.agg [.str r,.aO (some (b,o)) l.length c]] h (.agg [.str r,.sl n 0 l.length none]) (h.new (.cells (fH l) 101 true false)):=by
 intro h n e g a hp;subst e;have j:=jP (jg l);refine DoesC.PG (ah8 W Y Z F X r (c:=c) d h0 f) rfl rfl (by show AO.cells _ _ _ _=_;rw[AV.kF (λi h=>EN _ i h) j]) a g (λi o e _=>aJ (qJ hp e)) ?_;have u0:Mc h.nx 0=h.nx:=by unfold Mc;rw[show Nat.ble OLD 0=false from rfl];exact fA _
 show AV.agg [.str r,.sl (Mc h.nx 0) 0 l.length none]=_;rw[u0]
theorem ah7(r:List UInt8)(p:Option (Nat×Nat))(c:Nat)(hp:p=none->c=0)(a:h.df=0)(b:Nat.ble h.nx OLD=true):DC Z 17 [.agg [.str r,.aO p 0 c]] h (UR r) h:=
 DoesC.ov (DoesC.drop (DoesC.ent X (by kernel_rfl) (cfz W Y Z F X r p c (ah1 W Y Z F X p c hp rfl rfl))) [] (by kernel_rfl) (by kernel_rfl) (by kernel_rfl) rfl (by kernel_rfl) (by kernel_rfl) (by kernel_rfl)) (by kernel_rfl) (by kernel_rfl) a b
end
end
section
variable{N N0 ca i kc kn na qc qn:Nat}{R:qC}{kq:List Nat}{kv:AV}{lf lf0 rule:Int}{m m0:Mm}{pa pk qa qk:Option (Nat×Nat)}{rel:List UInt8}
mutual
def T.parts:T->Nat
 | .node _ a _ ks=>1+a.length+kH ks
def kH:List T->Nat
 |[]=>0
 |t::l=>t.parts+kH l
end
mutual
def T.DX:T->Prop
 | .node _ a _ ks=>a.length*32<=140737488355328∧ks.length<=4611686018427387904∧OL ks
def OL:List T->Prop
 |[]=>True
 |t::l=>t.DX∧OL l
end
theorem Ko:∀{l:List T} {t:T},OL l->t∈l->t.DX
 |u::l,t,h,a=>by
  rcases ay.1 a with rfl|a
  .exact h.1
  .exact Ko h.2 a
theorem Kw:∀(l r:List T),kH (l++r)=kH l+kH r
 |[],r=>by show kH r=0+kH r;omega
 |t::l,r=>by show t.parts+kH (l++r)=(t.parts+kH l)+kH r;rw[Kw l r];omega
def Qm(old:Old)(m:Mm)(a:AV)(b:List Nat)(ts:List T):Prop:=(a= .aQ∧b=[]∧ts=[])∨∃q c,b=[q]∧a= .sl q 0 ts.length none∧m q= .cells c 27 true false∧mF old c ts∧0<ts.length
def CyR(m0:Mm)(N0 l:Nat)(lf0:Int)(t:T):qC:=λa w c _=>∃(b:Int) (d:T),(∀k,k<N0->k≠l->c k=m0 k)∧c l= .cells [zI b] 3 false false∧JO a w d∧b<lf0∧(0<b->d=t∧b=lf0 - t.parts)
noncomputable def TV(l r o t:Nat)(i:Int):AF:=⟨L6,PW (.ptr l 0) (.ptr r 0) (.ptr o 0) (.ptr t 0) (zI i),ahU,[],false⟩
section
variable(W:Fe)(Y:Ge)(X:∀old,Fw old)(Z:∀old,Gw old)
include W Y X Z
theorem adZ{old:Old}{l r o t:Nat}{a b:Nat}
 (g:m l= .cells [zI lf] 3 false false)(hr:m r= .cells [.str rel,.aO pa na ca,zI rule,.aO pk kn kc] 27 false false)(q:m o= .cells [.str [],.aQ,zI 0,.aQ] 27 false false)(s:m t= .cells [.str rel,.aO qa qn qc,zI rule,.aO qk a b] 27 false false)
 (u:[l,r,o,t].Nodup)(v:∀z∈[l,r,o,t],z<N)(w:N<=OLD)(C:kn<=i∨lf<=0)
 (x:∀j,(∀k,k ∉ [r,o,t]->j k=m k)->R old (kR rel qa qn qc rule qk a b) j N):dL prog E old (TV l r o t i) m N R:=by
 obtain⟨θ,f⟩:=Pm.mk' (l:=[l,r,o,t]) (N:=N) (k:=0) [0,1,2,3] (by decide) rfl (by decide) u v (by omega);obtain⟨t0,t1,t2,t3⟩:θ.to 0=l∧θ.to 1=r∧θ.to 2=o∧θ.to 3=t:=by
  have h:[θ.to 0,θ.to 1,θ.to 2,θ.to 3]=[l,r,o,t]:=f;simp only[dM,iM]at h;exact h
 have D:DR old (TV 0 1 2 3 i) (lD (eF rel qa qn qc rule qk a b) (eF rel pa na ca rule pk kn kc) (iV lf) uZ) (kR rel qa qn qc rule qk a b) (lD (eF rel qa qn qc rule qk a b) (eF rel pa na ca rule pk kn kc) (iV lf) (eF rel qa qn qc rule qk a b)):=by
  by_cases h:kn<=i
  .exact cx2 W Y old (X old) (Z old) rel pa na ca rule pk kn kc lf i qa qn qc qk a b (aH (by omega))
  .exact cx3 W Y old (X old) (Z old) rel pa na ca rule pk kn kc lf i qa qn qc qk a b (aB (by omega)) (aH (by omega))
 have mem:∀{e:Nat×AO},e∈[(0,AO.cells [zI lf] 3 false false),(1,.cells [.str rel,.aO pa na ca,zI rule,.aO pk kn kc] 27 false false),(3,.cells [.str rel,.aO qa qn qc,zI rule,.aO qk a b] 27 false false),(2,.cells [.str [],.aQ,zI 0,.aQ] 27 false false)]->m (θ.to e.1)=e.2.ren θ.to∧θ.to e.1∈[l,r,t,o]:=λ{e} c=>by
  simp only[ay,av,aU]at c;rcases c with rfl|rfl|rfl|rfl
  .rw[t0,g];exact⟨rfl,by simp⟩
  .rw[t1,hr];exact⟨rfl,by simp⟩
  .rw[t3,s];exact⟨rfl,by simp⟩
  .rw[t2,q];exact⟨rfl,by simp⟩
 refine dL.uy (θ:=θ) (N':=N) (l:=[(l,.cells [zI lf] 3 false false),(r,.cells [.str rel,.aO pa na ca,zI rule,.aO pk kn kc] 27 false false),(t,.cells [.str rel,.aO qa qn qc,zI rule,.aO qk a b] 27 false false),(o,.cells [.str rel,.aO qa qn qc,zI rule,.aO qk a b] 27 false false)]) ⟨λe c=>(mem c).1,λe c=>(mem c).2,λe c y=>?_,λi h1 n=>?_,aj _,rfl,w,rfl,rfl⟩ D ⟨by kernel_rfl,rfl,rfl⟩ ?_ (x _ λk p=>?_)
 .simp only[ay,av,aU]at c
  rcases c with rfl|rfl|rfl|rfl
  .exact⟨0,_,rfl,t0,rfl⟩
  .exact⟨1,_,rfl,t1,rfl⟩
  .exact⟨3,_,rfl,t3,rfl⟩
  .exact⟨2,_,rfl,t2,rfl⟩
 .have h1:4<=i:=h1
  have n:i<4:=n;omega
 .show _=TV (θ.to 0) (θ.to 1) (θ.to 2) (θ.to 3) i
  rw[t0,t1,t2,t3]
 .simp only[ay,av,aU,not_or]at p
  obtain⟨k1,A,B⟩:=p;simp only[dn];by_cases d:k=l
  .rw[aC d,d,g]
  .rw[ah d,ah k1,ah B,ah A]
theorem adY{old:Old}{l r o t:Nat}{args:List PV}{kids ts:List T}
 (G:m l= .cells [zI lf] 3 false false)(hr:m r= .cells [.str rel,.aO pa na ca,zI rule,.aO pk kn kc] 27 false false)(P:m o= .cells [.str [],.aQ,zI 0,.aQ] 27 false false)(Q:m t= .cells [.str rel,.aO qa qn qc,zI rule,kv] 27 false false)(x:iJ old (.aO qa qn qc) args)(H:Qm old m kv kq ts)
 (y:([l,r,o,t]++kq).Nodup)(R:∀z∈[l,r,o,t]++kq,z<N)(V:l<N0)(A:∀z∈[r,o,t]++kq,N0<=z)(S:N<=OLD)(F:kids.length<=i∨lf<=0)(hkn:kn=kids.length)(I:∀k,k<N0->k≠l->m k=m0 k)(J:lf<lf0)(K:0<lf->ts=kids.take i∧lf=lf0 - 1 - args.length - kH (kids.take i)):
 dL prog E old (TV l r o t i) m N (CyR m0 N0 l lf0 (.node rel args rule kids)):=by
 have fin:∀{a:Old} {w:AV} {v m2:Mm},(∀k,k ∉ [r,o,t]++kq->m2 k=m k)->(∀k,k ∉ [r,o,t]->v k=m2 k)->JO a w (.node rel args rule ts)->CyR m0 N0 l lf0 (.node rel args rule kids) a w v N:=λ{a w v m2} h1 L h3=>by
  have U:∀k,k ∉ [r,o,t]++kq->v k=m k:=λk f=>by
   rw[L k (λh=>f (iq _ h)),h1 k f]
  refine⟨lf,_,λk f M=>?_,?_,h3,J,λhp=>?_⟩
  .rw[U k (λh=>by have:=A k h;omega),I k f M]
  .rw[U l (λh=>by have:=A l h;omega),G]
  .obtain⟨e1,e2⟩:=K hp
   rcases F with F|F
   .rw[eP F]at e1 e2
    refine⟨by rw[e1],?_⟩;have:(T.node rel args rule kids).parts=1+args.length+kH kids:=rfl;rw[e2,this];omega
   .omega
 rcases H with⟨rfl,rfl,rfl⟩|⟨q,KC,rfl,rfl,hq,n,h0⟩
 .refine dL.nil (j:=3) Q rfl ?_
  have p:∀z∈[l,r,o],z≠t:=λz s e=>by
   simp only[dD,dK,ay,av,aU,not_or]at y s;rcases s with rfl|rfl|rfl<;>simp_all
  refine adZ W Y X Z (m:=dn m [(t,.cells [.str rel,.aO qa qn qc,zI rule,.aO none 0 0] 27 false false)]) (by rw[← G];exact ah (p l (by simp))) (by rw[← hr];exact ah (p r (by simp))) (by rw[← P];exact ah (p o (by simp))) (aC rfl) (by simpa using y) (by simpa using R) S (by omega) (λv u=>fin (m2:=dn m [(t,.cells [.str rel,.aO qa qn qc,zI rule,.aO none 0 0] 27 false false)]) (λk f=>ah (λe=>f (by rw[e];simp))) u ⟨_,rfl,.cons x (.inr ⟨rfl,rfl,rfl⟩) .nil .nil⟩)
 .have d:∀z∈[l,r,o],z≠t∧z≠q:=λz s=>by
   simp only[iW,iE,dK,ay,av,aU,not_or]at y s;rcases s with rfl|rfl|rfl<;>simp_all
  have O:t≠q:=by
   simp only[iW,iE,dK,ay,av,aU,not_or]at y
   simp_all
  refine dL.Tn (id:=q) (i:=t) (j:=3) hq (wY n.vC) Q O rfl λa b c B _ C=>?_;have D:=know C;rw[n.len]at D;have g:∀k,k≠t->k≠q->dn m [(t,.cells ([.str rel,.aO qa qn qc,zI rule,.sl q 0 ts.length none].set 3 (.aO (some (b,0)) ts.length c)) 27 false false),(q,.dead)] k=m k:=λk h1 L=>by
   simp only[dn];rw[ah h1,ah L]
  refine adZ W Y X Z (by rw[← G];exact g l (d l (by simp)).1 (d l (by simp)).2) (by rw[← hr];exact g r (d r (by simp)).1 (d r (by simp)).2) (by rw[← P];exact g o (d o (by simp)).1 (d o (by simp)).2) (aC rfl) (by
   have:=y.sublist (List.sublist_append_left [l,r,o,t] [q]);exact this) (λz s=>R z (iq _ s)) S (by omega) (λv u=>fin (m2:=dn m [(t,.cells ([.str rel,.aO qa qn qc,zI rule,.sl q 0 ts.length none].set 3 (.aO (some (b,0)) ts.length c)) 27 false false),(q,.dead)]) (λk f=>g k (λe=>f (by rw[e];simp)) (λe=>f (by rw[e];simp))) u ⟨_,rfl,.cons (x.mono B) (.inl ⟨b,0,c,rfl,D⟩) (n.mono B) .nil⟩)
end
end
section
variable{N ca i kc kn na qc qn:Nat}{R:qC}{cs:List AV}{kids ts:List T}{kq:List Nat}{kv:AV}{lf rule:Int}{m:Mm}{pa qa:Option (Nat×Nat)}{rel:List UInt8}{θ:Pm}
def LX(t:T):Prop:=∀(old:Old) (v:AV) (m:Mm) (N l:Nat) (a:Int),JO old v t->(∀k,isCells (m k)=true)->m l= .cells [zI a] 3 false false->l<N->0<a->a<=1048576->(↑N:Int)+16*a<=↑OLD->
 CallM prog E old 5 [v,.ptr l 0] m N (λb w d N'=>∃(c:Int) (e:T),N'=N∧d l= .cells [zI c] 3 false false∧(∀k,k<N->k≠l->d k=m k)∧(∀k,isCells (d k)=true)∧JO b w e∧c<a∧(0<c->e=t∧c=a - t.parts))
section
variable(W:Fe)(Y:Ge)(X:∀old,Fw old)(Z:∀old,Gw old)
include W Y X Z
theorem aaX{old:Old}{l r o t:Nat}{a b c d f g h j k n p q:AV}(t0:θ.to 0=l)(t1:θ.to 1=r)(t2:θ.to 2=o)(t3:θ.to 3=t)(hi:i<4611686018427387904)(s:N<=OLD)
 (B:dL prog E old (TV l r o t ↑(i+1)) m N R):dL prog E old ((⟨L6,ae0 (.ptr 0 0) (.ptr 1 0) (.ptr 2 0) (.ptr 3 0) (zI (↑i:Int)) a b c d f g h j k n p q,cyK,[],false⟩:AF).ren θ.to) m N R:=by
 refine dL.Pn (θ:=θ) (cy5 W Y old (X old) (Z old) (.ptr 0 0) (.ptr 1 0) (.ptr 2 0) (.ptr 3 0) a b c d f g h j k n p q i) (λe u=>by cases u) s rfl rfl ⟨rfl,rfl,rfl⟩ ⟨rfl,rfl,rfl⟩ rfl ?_ B;show TV (θ.to 0) (θ.to 1) (θ.to 2) (θ.to 3) (IntKind.i64.wrap ((↑i:Int)+1))=_;rw[t0,t1,t2,t3,lT (by omega) (by omega)];rfl
theorem Xk(θ:Pm)(h:AV.fG 0 cs=true)(l:Nat)(t0:θ.to 0=l):AV.jM θ.to [.agg cs,.ptr 0 0]=[.agg cs,.ptr l 0]:=by
 show[AV.agg (AV.jM θ.to cs),.ptr (θ.to 0) 0]=_;rw[AV.kF θ.old h,t0]
theorem ac7{old:Old}{l r o t:Nat}{args:List PV}{f p:Nat}{u:T}{ks:List AV}(ih:LX u)
 (hc:∀k,isCells (m k)=true)(hl:m l= .cells [zI lf] 3 false false)(hr:m r= .cells [.str rel,.aO pa na ca,zI rule,.aO (some (f,p)) kn kc] 27 false false)(ht:m t= .cells [.str rel,.aO qa qn qc,zI rule,kv] 27 false false)(hkv:Qm old m kv kq ts)
 (O:([l,r,o,t]++kq).Nodup)(V:∀z∈[l,r,o,t]++kq,z<N)(hO:(↑N:Int)+16*lf<=↑OLD)(h0:0<lf)(h1:lf<=1048576)(hK:mF old ks kids)(hkn:kn=kids.length)(hkC:iI old f p (kids.length*4)=some ks)(hu:kids[i]? =some u)(hi:i<4611686018427387904)(hts:ts.length<=1048576)
 (B:∀(b:Old) (y:Mm) (A:Int) (d:T),Old.le old b->A<lf->(0<A->d=u∧A=lf - u.parts)->(∀k,isCells (y k)=true)->y l= .cells [zI A] 3 false false->y r=m r->y o=m o->y t= .cells [.str rel,.aO qa qn qc,zI rule,.sl (N+1) 0 (ts.length+1) none] 27 false false->Qm b y (.sl (N+1) 0 (ts.length+1) none) [N+1] (ts++[d])->(∀k,k<N->k ∉ [l,t]++kq->y k=m k)->
  dL prog E b (TV l r o t ↑(i+1)) y (N+2) R):
 dL prog E old (TV l r o t i) m N R:=by
 obtain⟨cs,hcs1,hcs2⟩:=hK.at hkC hu;have S:=hcs2.aeI;have lk:i<kn:=by rw[hkn];exact(aA.1 hu).1
 have hON:N+16<=OLD:=by unfold OLD at*;omega
 have hI:∀b,aZ (E.wo b) 25 (nP (E.wo b) (.aO (some (f,p)) kn kc)) (zI (↑i:Int))=some (zP (OLD+f) (p+i*4)):=λb=>jB (e:=27) (by kernel_rfl) (by kernel_rfl) rfl rfl lk;have hL:∀b,Old.le old b->∀h:AH,loadT (E.wo b) h 27 (OLD+f) (p+i*4)=some (.agg cs):=λb D h=>qy (t:=27) (z:=4) (by kernel_rfl) (by kernel_rfl) (nI D hcs1) h;obtain⟨cd,nt,rs,ex,hft⟩:=ags;have hvl:∀n U,AV.low n U=true->4<=n->AV.fG n (Ey f p kn kc i cs U)=true:=λn U h h4=>by
  have hb:∀j,j<4->(Nat.blt j n||Nat.ble OLD j)=true:=λj hj=>by rw[show Nat.blt j n=true from bF (by omega)];rfl
  show((Nat.blt 3 n||Nat.ble OLD 3)&&(AV.low n U&&((Nat.blt 1 n||Nat.ble OLD 1)&&(true&&(true&&((Nat.blt (OLD+f) n||Nat.ble OLD (OLD+f))&&(AV.fG n cs&&((Nat.blt 0 n||Nat.ble OLD 0)&&true))))))))=true;rw[hb 3 (by omega),hb 1 (by omega),hb 0 (by omega),h,AV.qI S,show Nat.ble OLD (OLD+f)=true from bF (gY _ _),jX];rfl
 have C:=ih old (.agg cs) m N l lf ⟨cs,rfl,hcs2⟩ hc hl (V l (by simp)) h0 h1 hO;have hlr:l≠r∧l≠o∧l≠t∧r≠o∧r≠t∧o≠t:=by
  simp only[iW,iE,dK,ay,av,aU,not_or]at O;exact⟨O.1.1,O.1.2.1,O.1.2.2.1,O.2.1.1,O.2.1.2.1,O.2.2.1.1⟩
 obtain⟨n1,n2,n3,n4,n5,n6⟩:=hlr;have lN:=V l (by simp);have rN:=V r (by simp);have oN:=V o (by simp);have tN:=V t (by simp);rcases hkv with⟨rfl,rfl,rfl⟩|⟨q,F,rfl,rfl,hq,htq,hpos⟩
 .obtain⟨θ,hθ⟩:=Pm.mk' (l:=[l,r,o,t]) (N:=N) (k:=2) [0,1,2,3,4,5] (by decide) rfl (by decide) (by simpa using O) (by simpa using V) (by omega)
  obtain⟨t0,t1,t2,t3,t4,t5⟩:θ.to 0=l∧θ.to 1=r∧θ.to 2=o∧θ.to 3=t∧θ.to 4=N∧θ.to 5=N+1:=by
   have h:[θ.to 0,θ.to 1,θ.to 2,θ.to 3,θ.to 4,θ.to 5]=[l,r,o,t,N,N+1]:=hθ;simp only[dM,iM]at h;exact h
  have mem:∀{y:Mm} {K:Int},y l= .cells [zI K] 3 false false->y r=m r->y t=m t->∀{e:Nat×AO},e∈[(0,AO.cells [zI K] 3 false false),(1,.cells [.str rel,.aO pa na ca,zI rule,.aO (some (f,p)) kn kc] 27 false false),(3,.cells [.str rel,.aO qa qn qc,zI rule,.aQ] 27 false false)]->y (θ.to e.1)=e.2.ren θ.to∧θ.to e.1∈[l,r,t,N,N+1]:=λ{y K} P g2 g3 {e} w=>by
   simp only[ay,av,aU]at w;rcases w with rfl|rfl|rfl
   .rw[t0,P];exact⟨rfl,by simp⟩
   .rw[t1,g2,hr];exact⟨rfl,by simp⟩
   .rw[t3,g3,ht];exact⟨rfl,by simp⟩
  refine dL.Pn (θ:=θ) (cx1 W Y old (X old) (Z old) rel pa na ca rule (some (f,p)) kn kc lf i (.str rel) (.aO qa qn qc) (zI rule) .aQ (aB (by omega)) (aB h0)) (λe w=>(mem hl rfl rfl w).1) (by omega) rfl rfl ⟨rfl,rfl,rfl⟩ ⟨rfl,rfl,rfl⟩ (f':=(⟨L6,PW (.ptr 0 0) (.ptr 1 0) (.ptr 2 0) (.ptr 3 0) (zI (↑i:Int)),ae1,[],false⟩:AF).ren θ.to) ?_ rfl ?_
  .show TV l r o t i=TV (θ.to 0) (θ.to 1) (θ.to 2) (θ.to 3) i
   rw[t0,t1,t2,t3]
  have C0:=C;rw[← Xk W Y X Z θ S l t0]at C0;refine dL.TN X Z (θ:=θ) (h0:=La rel pa na ca rule f p kn kc lf (.str rel) (.aO qa qn qc) (zI rule)) (c:=8) (o:=opAt jd 8) (vs:=Ey f p kn kc i cs .aQ) (g:=5) (args:=[.agg cs,.ptr 0 0]) rfl (by kernel_rfl) aa1 (by rw[PU];decide) aa4 aa5 rfl
   (XI old rel pa na ca rule f p kn kc lf i cs (.str rel) (.aO qa qn qc) (zI rule) (hI old) (hL old (Old.le_refl _) _)) (aa0 f p kn kc i cs) (TU old rel pa na ca rule f p kn kc lf i cs (.str rel) (.aO qa qn qc) (zI rule)) hft
   (λe w=>(mem hl rfl rfl w).1) (by omega) rfl rfl (λx a e=>rE (show yZ 4 (PW (.ptr 0 0) (.ptr 1 0) (.ptr 2 0) (.ptr 3 0) (zI (↑i:Int)))=true from by kernel_rfl) e) (hvl 4 .aQ rfl (aj _)) (XG old i (.ptr 2 0)) (by kernel_rfl) rfl C0 ?_
  .rintro b v y N'' D ⟨A,d,L,e1,e2',hcm,hT,hlt,hp⟩
   have L:=L.symm;subst L;obtain⟨c,rfl,Q⟩:=hT;obtain⟨a,G,s,ks',rfl,ha,_,_⟩:=Q.one;obtain⟨H,I,J,rfl⟩:=ha.shape;have e2:∀k,k≠l->k<N->y k=m k:=λk h1 h2=>e2' k h2 h1;refine⟨θ,La rel pa na ca rule f p kn kc A (.str rel) (.aO qa qn qc) (zI rule),agu rel pa na ca rule f p kn kc A (.str d.rel) (.aO H I J) (zI d.rule) (.aO G d.kids.length s) (.str rel) (.aO qa qn qc) (zI rule),.agg [.str d.rel,.aO H I J,zI d.rule,.aO G d.kids.length s],[.agg cs,.ptr 0 0],_,[.c,.c,.c,.c],_,[(l,.cells [zI A] 3 false false),(r,.cells [.str rel,.aO pa na ca,zI rule,.aO (some (f,p)) kn kc] 27 false false),(t,.cells [.str rel,.aO qa qn qc,zI rule,.sl (N+1) 0 1 none] 27 false false),(N,.cells [.str d.rel,.aO H I J,zI d.rule,.aO G d.kids.length s] 27 false false),(N+1,.cells [.str d.rel,.aO H I J,zI d.rule,.aO G d.kids.length s] 27 true false)],N+2,
    ⟨λ_ _=>rfl,rfl,XI b rel pa na ca rule f p kn kc A i cs (.str rel) (.aO qa qn qc) (zI rule) (hI b) (hL b D _),TU b rel pa na ca rule f p kn kc A i cs (.str rel) (.aO qa qn qc) (zI rule),aa3 b rel pa na ca rule f p kn kc A i cs (.str d.rel) (.aO H I J) (zI d.rule) (.aO G d.kids.length s) (.str rel) (.aO qa qn qc) (zI rule),⟨hL b D _,rfl,rfl,rfl⟩,⟨λe w=>(mem e1 (e2 r (λh=>n1 h.symm) rN) (e2 t (λh=>n3 h.symm) tN) w).1,λe w=>(mem e1 (e2 r (λh=>n1 h.symm) rN) (e2 t (λh=>n3 h.symm) tN) w).2,λe w hlv=>?_,λj P g2=>?_,by omega,rfl,by omega,rfl,rfl⟩,aaX W Y X Z t0 t1 t2 t3 hi (by omega) (B b _ A d D hlt hp (λk=>?_) ?_ ?_ ?_ ?_ ?_ (λk P g2=>?_))⟩⟩
   .simp only[ay,av,aU]at w
    rcases w with rfl|rfl|rfl|rfl|rfl
    .exact⟨0,_,rfl,t0,rfl⟩
    .exact⟨1,_,rfl,t1,rfl⟩
    .refine⟨3,_,rfl,t3,?_⟩
     show AO.cells [.str rel,.aO qa qn qc,zI rule,.sl (θ.to 5) 0 1 none] 27 false false=_;rw[t5]
    .exact⟨4,_,rfl,t4,rfl⟩
    .exact⟨5,_,rfl,t5,rfl⟩
   .have P:4<=j:=P
    have g2:j<6:=g2;have:j=4∨j=5:=by omega
    rcases this with rfl|rfl
    .rw[t4];omega
    .rw[t5];omega
   .simp only[dn]
    repeat' split
    all_goals first|rfl|exact hcm k
   .simp only[dn];rw[aC trivial]
   .simp only[dn];rw[ah (λh=>n1 h.symm),aC trivial,hr]
   .simp only[dn];rw[ah (λh=>n2 h.symm),ah (λh=>n4 h.symm),ah n6,ah (by omega),ah (by omega),e2 o (λh=>n2 h.symm) oN]
   .simp only[dn];rw[ah (λh=>n3 h.symm),ah (λh=>n5 h.symm),aC trivial];rfl
   .refine .inr ⟨N+1,_,rfl,rfl,?_,Q,jm⟩
    simp only[dn];rw[ah (by omega),ah (by omega),ah (by omega),ah (by omega),aC trivial]
   .simp only[dD,ay,av,aU,not_or]at g2
    simp only[dn];rw[ah g2.1];by_cases M:k=r
    .rw[aC M,M,hr]
    .rw[ah M,ah g2.2,ah (by omega),ah (by omega),e2 k g2.1 P]
 .obtain⟨θ,hθ⟩:=Pm.mk' (l:=[l,r,o,t,q]) (N:=N) (k:=2) [0,1,2,3,4,5,6] (by decide) rfl (by decide) (by simpa using O) (by simpa using V) (by omega)
  obtain⟨t0,t1,t2,t3,t4,t5,t6⟩:θ.to 0=l∧θ.to 1=r∧θ.to 2=o∧θ.to 3=t∧θ.to 4=q∧θ.to 5=N∧θ.to 6=N+1:=by
   have h:[θ.to 0,θ.to 1,θ.to 2,θ.to 3,θ.to 4,θ.to 5,θ.to 6]=[l,r,o,t,q,N,N+1]:=hθ;simp only[dM,iM]at h;exact h
  have qN:=V q (by simp);obtain⟨n7,n8,n9,n10⟩:l≠q∧r≠q∧o≠q∧t≠q:=by
   simp only[iW,iE,dK,ay,av,aU,not_or]at O;exact⟨O.1.2.2.2,O.2.1.2.2,O.2.2.1.2,O.2.2.2.1⟩
  have hKl:=htq.vC;have hKlen:=htq.len;have mem:∀{y:Mm} {K:Int},y l= .cells [zI K] 3 false false->y r=m r->y t=m t->y q=m q->∀{e:Nat×AO},e∈[(0,AO.cells [zI K] 3 false false),(1,.cells [.str rel,.aO pa na ca,zI rule,.aO (some (f,p)) kn kc] 27 false false),(3,.cells [.str rel,.aO qa qn qc,zI rule,.sl 4 0 ts.length none] 27 false false),(4,.cells F 27 true false)]->y (θ.to e.1)=e.2.ren θ.to∧θ.to e.1∈[l,r,t,q,N,N+1]:=λ{y K} P g2 g3 g4 {e} w=>by
   simp only[ay,av,aU]at w;rcases w with rfl|rfl|rfl|rfl
   .rw[t0,P];exact⟨rfl,by simp⟩
   .rw[t1,g2,hr];exact⟨rfl,by simp⟩
   .rw[t3,g3,ht]
    refine⟨?_,by simp⟩;show _=AO.cells [.str rel,.aO qa qn qc,zI rule,.sl (θ.to 4) 0 ts.length none] 27 false false;rw[t4]
   .rw[t4,g4,hq,gW θ hKl];exact⟨rfl,by simp⟩
  refine dL.Pn (θ:=θ) (h:=(abC (.cells [.str rel,.aO qa qn qc,zI rule,.sl 4 0 ts.length none] 27 false false) (sQ rel pa na ca rule f p kn kc) (iV lf))) (cx1 W Y old (X old) (Z old) rel pa na ca rule (some (f,p)) kn kc lf i (.str rel) (.aO qa qn qc) (zI rule) (.sl 4 0 ts.length none) (aB (by omega)) (aB h0)) (λe w=>by
   have w:e∈[(0,AO.cells [zI lf] 3 false false),(1,.cells [.str rel,.aO pa na ca,zI rule,.aO (some (f,p)) kn kc] 27 false false),(3,.cells [.str rel,.aO qa qn qc,zI rule,.sl 4 0 ts.length none] 27 false false)]:=w;exact(mem hl rfl rfl rfl (by simp only[ay,av,aU]at w ⊢;rcases w with h|h|h<;>simp[h])).1) (by omega) rfl rfl ⟨rfl,rfl,rfl⟩ ⟨rfl,rfl,rfl⟩ (f':=(⟨L6,PW (.ptr 0 0) (.ptr 1 0) (.ptr 2 0) (.ptr 3 0) (zI (↑i:Int)),ae1,[],false⟩:AF).ren θ.to) ?_ rfl ?_
  .show TV l r o t i=TV (θ.to 0) (θ.to 1) (θ.to 2) (θ.to 3) i
   rw[t0,t1,t2,t3]
  have C0:=C;rw[← Xk W Y X Z θ S l t0]at C0;refine dL.TN X Z (θ:=θ) (h0:=KZ rel pa na ca rule f p kn kc lf (.str rel) (.aO qa qn qc) (zI rule) ts.length F) (c:=8) (o:=opAt jd 8) (vs:=Ey f p kn kc i cs (.sl 4 0 ts.length none)) (g:=5) (args:=[.agg cs,.ptr 0 0]) rfl (by kernel_rfl) aa1 (by rw[PU];decide) aa4 aa5 rfl
   (XH old rel pa na ca rule f p kn kc lf i cs (.str rel) (.aO qa qn qc) (zI rule) ts.length F (hI old) (hL old (Old.le_refl _) _)) (aaZ f p kn kc i cs ts.length F) (TQ old rel pa na ca rule f p kn kc lf i cs (.str rel) (.aO qa qn qc) (zI rule) ts.length F) hft
   (λe w=>(mem hl rfl rfl rfl w).1) (by omega) rfl rfl (λx a e=>rE (show yZ 5 (PW (.ptr 0 0) (.ptr 1 0) (.ptr 2 0) (.ptr 3 0) (zI (↑i:Int)))=true from by kernel_rfl) e) (hvl 5 (.sl 4 0 ts.length none) rfl (by decide)) (XG old i (.ptr 2 0)) (by kernel_rfl) rfl C0 ?_
  .rintro b v y N'' D ⟨A,d,L,e1,e2',hcm,hT,hlt,hp⟩
   have L:=L.symm;subst L;obtain⟨c,rfl,Q⟩:=hT;obtain⟨a,G,s,ks',rfl,ha,_,_⟩:=Q.one;obtain⟨H,I,J,rfl⟩:=ha.shape;have e2:∀k,k≠l->k<N->y k=m k:=λk h1 h2=>e2' k h2 h1;have hA:=xC (E:=E.wo b) (ts:=25) (tx:=25) (e:=27) (sz:=4) (h:=agv rel pa na ca rule f p kn kc A (.str d.rel) (.aO H I J) (zI d.rule) (.aO G d.kids.length s) (.str rel) (.aO qa qn qc) (zI rule) ts.length F) (by kernel_rfl) (id:=4) (len:=ts.length) (id2:=5) (off2:=0) (cc:=some 1) (vs:=F) (cs:=[.str d.rel,.aO H I J,zI d.rule,.aO G d.kids.length s]) rfl (by omega) (by omega) rfl rfl rfl;rw[show F.take (ts.length*4)=F from eP (by omega)]at hA;have hnew:F++[.str d.rel,.aO H I J,zI d.rule,.aO G d.kids.length s]=F++[.str d.rel,.aO H I J,zI d.rule,.aO G d.kids.length s]:=rfl;refine⟨θ,KZ rel pa na ca rule f p kn kc A (.str rel) (.aO qa qn qc) (zI rule) ts.length F,agt rel pa na ca rule f p kn kc A (.str d.rel) (.aO H I J) (zI d.rule) (.aO G d.kids.length s) (.str rel) (.aO qa qn qc) (zI rule) ts.length F (F++[.str d.rel,.aO H I J,zI d.rule,.aO G d.kids.length s]),.agg [.str d.rel,.aO H I J,zI d.rule,.aO G d.kids.length s],[.agg cs,.ptr 0 0],_,_,_,[(l,.cells [zI A] 3 false false),(r,.cells [.str rel,.aO pa na ca,zI rule,.aO (some (f,p)) kn kc] 27 false false),(t,.cells [.str rel,.aO qa qn qc,zI rule,.sl (N+1) 0 (ts.length+1) none] 27 false false),(q,.dead),(N,.cells [.str d.rel,.aO H I J,zI d.rule,.aO G d.kids.length s] 27 false false),(N+1,.cells (F++[.str d.rel,.aO H I J,zI d.rule,.aO G d.kids.length s]) 27 true false)],N+2,
    ⟨λ_ _=>rfl,rfl,XH b rel pa na ca rule f p kn kc A i cs (.str rel) (.aO qa qn qc) (zI rule) ts.length F (hI b) (hL b D _),TQ b rel pa na ca rule f p kn kc A i cs (.str rel) (.aO qa qn qc) (zI rule) ts.length F,aa2 b rel pa na ca rule f p kn kc A i cs (.str d.rel) (.aO H I J) (zI d.rule) (.aO G d.kids.length s) (.str rel) (.aO qa qn qc) (zI rule) ts.length F (F++[.str d.rel,.aO H I J,zI d.rule,.aO G d.kids.length s]),⟨rfl,rfl,hA,hL b D _,rfl,rfl,rfl⟩,⟨λe w=>(mem e1 (e2 r (λh=>n1 h.symm) rN) (e2 t (λh=>n3 h.symm) tN) (e2 q (λh=>n7 h.symm) qN) w).1,λe w=>(mem e1 (e2 r (λh=>n1 h.symm) rN) (e2 t (λh=>n3 h.symm) tN) (e2 q (λh=>n7 h.symm) qN) w).2,λe w hlv=>?_,λj P g2=>?_,by omega,rfl,by omega,rfl,rfl⟩,aaX W Y X Z t0 t1 t2 t3 hi (by omega) (B b _ A d D hlt hp (λk=>?_) ?_ ?_ ?_ ?_ ?_ (λk P g2=>?_))⟩⟩
   .simp only[ay,av,aU]at w
    rcases w with rfl|rfl|rfl|rfl|rfl|rfl
    .exact⟨0,_,rfl,t0,rfl⟩
    .exact⟨1,_,rfl,t1,rfl⟩
    .refine⟨3,_,rfl,t3,?_⟩
     show AO.cells [.str rel,.aO qa qn qc,zI rule,.sl (θ.to 6) 0 (ts.length+1) none] 27 false false=_;rw[t6]
    .exact hlv.elim
    .exact⟨5,_,rfl,t5,rfl⟩
    .exact⟨6,_,rfl,t6,gW θ (pU hKl Q.vC) _ _ _⟩
   .have P:5<=j:=P
    have g2:j<7:=g2;have:j=5∨j=6:=by omega
    rcases this with rfl|rfl
    .rw[t5];omega
    .rw[t6];omega
   .simp only[dn]
    repeat' split
    all_goals first|rfl|exact hcm k
   .simp only[dn];rw[aC trivial]
   .simp only[dn];rw[ah (λh=>n1 h.symm),aC trivial,hr]
   .simp only[dn];rw[ah (λh=>n2 h.symm),ah (λh=>n4 h.symm),ah n6,ah n9,ah (by omega),ah (by omega),e2 o (λh=>n2 h.symm) oN]
   .simp only[dn];rw[ah (λh=>n3 h.symm),ah (λh=>n5 h.symm),aC trivial]
   .refine .inr ⟨N+1,_,rfl,by rw[bC];rfl,?_,(htq.mono D).app Q,by rw[bC];simp⟩
    simp only[dn];rw[ah (by omega),ah (by omega),ah (by omega),ah (by omega),ah (by omega),aC trivial]
   .simp only[iW,iE,ay,av,aU,not_or]at g2
    simp only[dn];rw[ah g2.1];by_cases M:k=r
    .rw[aC M,M,hr]
    .rw[ah M,ah g2.2.1,ah g2.2.2,ah (by omega),ah (by omega),e2 k g2.1 P]
end
end
section
variable{N0 ca i kc kn na:Nat}{kids:List T}{lf0 rule:Int}{m0:Mm}{pa pk:Option (Nat×Nat)}{rel:List UInt8}
theorem Yq:∀t:T,1<=t.parts
 | .node _ a _ ks=>by show 1<=1+a.length+kH ks;omega
theorem Ns:∀l:List T,l.length<=kH l
 |[]=>aj _
 |t::l=>by
  have h1:=Yq t;have a:=Ns l;show l.length+1<=t.parts+kH l;omega
theorem Vj{l:List T}{u:T}(h:l[i]? =some u):kH (l.take (i+1))=kH (l.take i)+u.parts:=by
 rw[List.take_succ,h,Kw];show _+(u.parts+0)=_;omega
section
variable(W:Fe)(Y:Ge)(X:∀old,Fw old)(Z:∀old,Gw old)
include W Y X Z
theorem aaY{l r o t:Nat}{args:List PV}{ks:List AV}(ih:∀u∈kids,LX u)(hkl:kids.length<=4611686018427387904)(v:kn=kids.length)(h1:lf0<=1048576)(D:l<N0)(a:∀z∈[r,o,t],N0<=z):
 ∀(n i:Nat) (old:Old) (m:Mm) (N:Nat) (c:Int) (ts:List T) (O:AV) (C:List Nat) (F:Option (Nat×Nat)) (G H:Nat),kids.length - i=n->i<=kids.length->(∀k,isCells (m k)=true)->m l= .cells [zI c] 3 false false->m r= .cells [.str rel,.aO pa na ca,zI rule,.aO pk kn kc] 27 false false->m o= .cells [.str [],.aQ,zI 0,.aQ] 27 false false->m t= .cells [.str rel,.aO F G H,zI rule,O] 27 false false->iJ old (.aO F G H) args->Qm old m O C ts->
  mF old ks kids->((kids=[]∧pk=none)∨∃b I,pk=some (b,I)∧iI old b I (kids.length*4)=some ks)->([l,r,o,t]++C).Nodup->(∀z∈[l,r,o,t]++C,z<N)->(∀z∈C,N0<=z)->N<=OLD->(0<c->(↑N:Int)+16*c<=↑OLD)->(∀k,k<N0->k≠l->m k=m0 k)->c<lf0->(0<c->ts=kids.take i∧c=lf0 - 1 - args.length - kH (kids.take i))->
  dL prog E old (TV l r o t i) m N (CyR m0 N0 l lf0 (.node rel args rule kids)):=by
 intro n;induction n with
 |zero=>
  intro i old m N c ts O C F G H hn hi hc P hr Q R d f U q J s g V w j x p;exact adY W Y X Z P hr Q R d f J s D (λz y=>(bQ.1 y).elim (a z) (g z)) V (.inl (by omega)) v j x p
 |succ n IH=>
  intro i old m N c ts O C F G H hn hi hc P hr Q R d f U q J s g V w j x p;by_cases hp:0<c
  .obtain⟨K,elf⟩:=p hp
   obtain⟨u,S⟩:∃u,kids[i]? =some u:=⟨_,aI (by omega)⟩;have A:=bP S;obtain⟨kb,ko,rfl,L⟩:∃b I,pk=some (b,I)∧iI old b I (kids.length*4)=some ks:=by
    rcases q with⟨h,_⟩|h
    .rw[h]at A;cases A
    .exact h
   have hpl:=Ns (kids.take i);have htl:ts.length<=1048576:=by rw[K];omega
   refine ac7 W Y X Z (args:=args) (ih u A) hc P hr R f J s (w hp) hp (by omega) U v L S (by omega) htl ?_;intro M m' l' t' B hlt' hp' hc' g1 g2 g3 g4 g5 g6;have hb:=w hp;have lN:=s l (by simp);have rN:=s r (by simp);have oN:=s o (by simp);have tN:=s t (by simp);refine IH (i+1) M m' (N+2) l' (ts++[t']) _ [N+1] F G H (by omega) (by omega) hc' g1 (by rw[g2,hr]) (by rw[g3,Q]) g4 (d.mono B) g5 (U.mono B) (.inr ⟨kb,ko,rfl,nI B L⟩) ?_ ?_ ?_ (by omega) (λhp=>by omega) (λk k1 k2=>?_) (by omega) (λhp=>?_)
   .have hd':[l,r,o,t].Nodup:=J.sublist (List.sublist_append_left _ _)
    simp only[iW,iE,dK,ay,av,aU,not_or,not_false_iff,iM,List.nodup_nil]at hd' ⊢;omega
   .intro z y
    simp only[iW,iE,ay,av,aU]at y;omega
   .intro z y
    rw[bY]at y;have:=a t (by simp);omega
   .have h2:=a t (by simp)
    have h3:=a r (by simp);rw[g6 k (by omega) (λh=>?_),j k k1 k2];rcases bQ.1 h with h|h
    .simp only[ay,av,aU]at h;omega
    .have:=g k h;omega
   .obtain⟨rfl,e⟩:=hp' hp
    refine⟨by rw[List.take_succ,S,K];rfl,?_⟩;rw[Vj S,e,elf];omega
  .exact adY W Y X Z P hr Q R d f J s D (λz y=>(bQ.1 y).elim (a z) (g z)) V (.inr (by omega)) v j x p
theorem ac8{t:T}{args:List PV}(et:t= .node rel args rule kids)(ih:∀u∈kids,LX u)(hr:t.DX):LX t:=by
 subst et;intro old v m N l f hT I hl x h0 h1 hO;obtain⟨ra,rk,_⟩:=hr;refine CallM.cap (R1:=CyR m N l f (.node rel args rule kids)) ?_ I ?_
 .obtain⟨cs,rfl,h⟩:=hT
  obtain⟨a,n,kc,ks,rfl,M,J,K⟩:=h.one;have M:iJ old a args:=M;have J:mF old ks kids:=J;have K:(kids=[]∧n=none)∨∃bk ok,n=some (bk,ok)∧iI old bk ok (kids.length*4)=some ks:=K;refine CallM.of (Z old) (by kernel_rfl) ?_;have hON:N+16<=OLD:=by unfold OLD at*;omega
  have hna:args.length<=4398046511104:=by omega
  have hw:IntKind.i64.wrap (IntKind.i64.wrap (f - 1) - (↑args.length:Int))=f - 1 - ↑args.length:=by
   rw[lT (z:=f - 1) (by omega) (by omega),lT (by omega) (by omega)]
  have zero:∀(p:Option (Nat×Nat)) (c:Nat),(p=none->c=0)->args=[]->dL prog E old (Ev.ent (E.wo old) 5 [.agg [.str rel,.aO p 0 c,zI rule,.aO n kids.length kc],.ptr l 0]) m N (CyR m N l f (.node rel args rule kids)):=λp c hp ha=>by
   obtain⟨θ,y⟩:=Pm.mk' (l:=[l]) (N:=N) (k:=3) [0,1,2,3] (by decide) rfl (by decide) (by simp) (by simp;omega) (by omega);obtain⟨t0,t1,t2,t3⟩:θ.to 0=l∧θ.to 1=N∧θ.to 2=N+1∧θ.to 3=N+2:=by
    have h:[θ.to 0,θ.to 1,θ.to 2,θ.to 3]=[l,N,N+1,N+2]:=y;simp only[dM,iM]at h;exact h
   have O:IntKind.i64.wrap (IntKind.i64.wrap (f - 1) - (↑(0:Nat):Int))=f - 1:=by
    rw[lT (z:=f - 1) (by omega) (by omega),lT (by omega) (by omega)];omega
   have D:=cxz W Y old (X old) (Z old) rel p 0 c rule n kids.length kc f (ah7 W Y old (X old) (Z old) rel p c hp rfl rfl);rw[O]at D;refine dL.lift (θ:=θ) (N':=N+3) (l:=[(l,.cells [zI (f - 1)] 3 false false),(N,.cells [.str rel,.aO p 0 c,zI rule,.aO n kids.length kc] 27 false false),(N+1,.cells [.str [],.aQ,zI 0,.aQ] 27 false false),(N+2,.cells [.str rel,.aQ,zI rule,.aQ] 27 false false)]) ⟨λe d=>?_,λe d=>?_,λe d P=>?_,λj A g2=>?_,by omega,rfl,by omega,rfl,rfl⟩ D ⟨by kernel_rfl,by kernel_rfl,by kernel_rfl⟩ ⟨by kernel_rfl,rfl,rfl⟩ ?_ (f':=TV l N (N+1) (N+2) 0) ?_ ?_
   .have d:e∈[(0,AO.cells [zI f] 3 false false)]:=d
    rw[bY]at d;subst d;rw[t0,hl];rfl
   .have d:e∈[(0,AO.cells [zI f] 3 false false)]:=d
    rw[bY]at d;subst d;rw[t0];simp
   .simp only[ay,av,aU]at d
    rcases d with rfl|rfl|rfl|rfl
    .exact⟨0,_,rfl,t0,rfl⟩
    .exact⟨1,_,rfl,t1,rfl⟩
    .exact⟨2,_,rfl,t2,rfl⟩
    .exact⟨3,_,rfl,t3,rfl⟩
   .have A:1<=j:=A
    have g2:j<4:=g2;have:j=1∨j=2∨j=3:=by omega
    rcases this with rfl|rfl|rfl
    .rw[t1];omega
    .rw[t2];omega
    .rw[t3];omega
   .rw[show(Ev.ent (E.wo old) 5 [.agg [.str rel,.aO p 0 c,zI rule,.aO n kids.length kc],.ptr 0 0]).ren θ.to=Ev.ent (E.wo old) 5 [.agg [.str rel,.aO p 0 c,zI rule,.aO n kids.length kc],.ptr (θ.to 0) 0]from by kernel_rfl,t0]
   .show TV (θ.to 0) (θ.to 1) (θ.to 2) (θ.to 3) 0=_
    rw[t0,t1,t2,t3]
   .refine dL.nil (id:=N+2) (j:=1) (ws:=[.str rel,.aQ,zI rule,.aQ]) (el:=27) (g:=false) (z:=false) (by simp only[dn];rw[ah (by omega),ah (by omega),ah (by omega),aC trivial]) rfl ?_
    have H:=aaY W Y X Z (m0:=m) (N0:=N) (l:=l) (r:=N) (o:=N+1) (t:=N+2) (rule:=rule) (args:=args) (rel:=rel) (ks:=ks) (pa:=p) (na:=0) (ca:=c) (pk:=n) (kn:=kids.length) (kc:=kc) (lf0:=f) ih rk rfl h1 x (λz q=>by simp only[ay,av,aU]at q;omega)
     kids.length 0 old (dn (dn m [(l,.cells [zI (f - 1)] 3 false false),(N,.cells [.str rel,.aO p 0 c,zI rule,.aO n kids.length kc] 27 false false),(N+1,.cells [.str [],.aQ,zI 0,.aQ] 27 false false),(N+2,.cells [.str rel,.aQ,zI rule,.aQ] 27 false false)]) [(N+2,.cells ([.str rel,.aQ,zI rule,.aQ].set 1 (.aO none 0 0)) 27 false false)]) (N+3) (f - 1) [] .aQ [] none 0 0 (by omega) (bK _)
     (λk=>by simp only[dn];repeat' split
             all_goals first|rfl|exact I k) (by simp only[dn];rw[ah (by omega),aC trivial]) (by simp only[dn];rw[ah (by omega),ah (by omega),aC trivial]) (by simp only[dn];rw[ah (by omega),ah (by omega),ah (by omega),aC trivial]) (by simp only[dn];rw[aC trivial];rfl) (by rw[ha];exact .inr ⟨rfl,rfl,rfl⟩) (.inl ⟨rfl,rfl,rfl⟩) J K
     (by simp only[dD,dK,ay,av,aU,not_or,not_false_iff,iM,List.nodup_nil];omega) (λz q=>by simp only[dD,ay,av,aU]at q;omega) (λz q=>by cases q) (by omega) (λhp=>by omega) (λk k1 C=>by simp only[dn];rw[ah (by omega),ah C,ah (by omega),ah (by omega),ah (by omega)]) (by omega) (λhp=>⟨rfl,by rw[ha];show _=f - 1 - 0 - ((0:Nat):Int);omega⟩)
    exact H
  rcases M with⟨b,o,c,rfl,hC⟩|⟨rfl,e0,_⟩
  .rcases jw args.length with d|d
   .have q:=zero (some (b,o)) c (λh=>by cases h) (bM.1 d)
    rw[d];exact q
   .obtain⟨θ,y⟩:=Pm.mk' (l:=[l]) (N:=N) (k:=4) [0,1,2,3,4] (by decide) rfl (by decide) (by simp) (by simp;omega) (by omega)
    obtain⟨t0,t1,t2,t3,t4⟩:θ.to 0=l∧θ.to 1=N∧θ.to 2=N+1∧θ.to 3=N+2∧θ.to 4=N+3:=by
     have h:[θ.to 0,θ.to 1,θ.to 2,θ.to 3,θ.to 4]=[l,N,N+1,N+2,N+3]:=y;simp only[dM,iM]at h;exact h
    have D:=cxa W Y old (X old) (Z old) rel (some (b,o)) args.length c rule n kids.length kc f (fH args) (c17 W Y old (X old) (Z old) rel hC d ra rfl rfl rfl (by kernel_rfl));rw[hw]at D;have Q:=jP (jg args);refine dL.lift (θ:=θ) (N':=N+4) (l:=[(l,.cells [zI (f - 1 - ↑args.length)] 3 false false),(N,.cells [.str rel,.aO (some (b,o)) args.length c,zI rule,.aO n kids.length kc] 27 false false),(N+1,.cells [.str [],.aQ,zI 0,.aQ] 27 false false),(N+2,.cells (fH args) 101 true false),(N+3,.cells [.str rel,.sl (N+2) 0 args.length none,zI rule,.aQ] 27 false false)]) ⟨λe d=>?_,λe d=>?_,λe d P=>?_,λj A g2=>?_,by omega,rfl,by omega,rfl,rfl⟩ D ⟨by kernel_rfl,by kernel_rfl,by kernel_rfl⟩ ⟨by kernel_rfl,rfl,rfl⟩ ?_ (f':=TV l N (N+1) (N+3) 0) ?_ ?_
    .have d:e∈[(0,AO.cells [zI f] 3 false false)]:=d
     rw[bY]at d;subst d;rw[t0,hl];rfl
    .have d:e∈[(0,AO.cells [zI f] 3 false false)]:=d
     rw[bY]at d;subst d;rw[t0];simp
    .simp only[ay,av,aU]at d
     rcases d with rfl|rfl|rfl|rfl|rfl
     .exact⟨0,_,rfl,t0,rfl⟩
     .exact⟨1,_,rfl,t1,rfl⟩
     .exact⟨2,_,rfl,t2,rfl⟩
     .exact⟨3,_,rfl,t3,gW θ Q _ _ _⟩
     .refine⟨4,_,rfl,t4,?_⟩
      show AO.cells [.str rel,.sl (θ.to 3) 0 args.length none,zI rule,.aQ] 27 false false=_;rw[t3]
    .have A:1<=j:=A
     have g2:j<5:=g2;have:j=1∨j=2∨j=3∨j=4:=by omega
     rcases this with rfl|rfl|rfl|rfl
     .rw[t1];omega
     .rw[t2];omega
     .rw[t3];omega
     .rw[t4];omega
    .rw[show(Ev.ent (E.wo old) 5 [.agg [.str rel,.aO (some (b,o)) args.length c,zI rule,.aO n kids.length kc],.ptr 0 0]).ren θ.to=Ev.ent (E.wo old) 5 [.agg [.str rel,.aO (some (b,o)) args.length c,zI rule,.aO n kids.length kc],.ptr (θ.to 0) 0]from by kernel_rfl,t0];rfl
    .show TV (θ.to 0) (θ.to 1) (θ.to 2) (θ.to 4) 0=_
     rw[t0,t1,t2,t4]
    .refine dL.Tn (id:=N+2) (i:=N+3) (j:=1) (vs:=fH args) (ws:=[.str rel,.sl (N+2) 0 args.length none,zI rule,.aQ]) (el:=101) (g:=true) (z:=false) (el2:=27) (g2:=false) (z2:=false) (by simp only[dn];rw[ah (by omega),ah (by omega),ah (by omega),aC trivial]) (jg args) (by simp only[dn];rw[ah (by omega),ah (by omega),ah (by omega),ah (by omega),aC trivial]) (by omega) rfl λs b' c' B _ R=>?_
     have H:=aaY W Y X Z (m0:=m) (N0:=N) (l:=l) (r:=N) (o:=N+1) (t:=N+3) (rule:=rule) (args:=args) (rel:=rel) (ks:=ks) (pa:=some (b,o)) (na:=args.length) (ca:=c) (pk:=n) (kn:=kids.length) (kc:=kc) (lf0:=f) ih rk rfl h1 x (λz q=>by simp only[ay,av,aU]at q;omega)
      kids.length 0 s (dn (dn m [(l,.cells [zI (f - 1 - ↑args.length)] 3 false false),(N,.cells [.str rel,.aO (some (b,o)) args.length c,zI rule,.aO n kids.length kc] 27 false false),(N+1,.cells [.str [],.aQ,zI 0,.aQ] 27 false false),(N+2,.cells (fH args) 101 true false),(N+3,.cells [.str rel,.sl (N+2) 0 args.length none,zI rule,.aQ] 27 false false)]) [(N+3,.cells ([.str rel,.sl (N+2) 0 args.length none,zI rule,.aQ].set 1 (.aO (some (b',0)) args.length c')) 27 false false),(N+2,.dead)]) (N+4) (f - 1 - ↑args.length) [] .aQ [] (some (b',0)) args.length c' (by omega) (bK _)
      (λk=>by simp only[dn];repeat' split
              all_goals first|rfl|exact I k) (by simp only[dn];rw[ah (by omega),ah (by omega),aC trivial]) (by simp only[dn];rw[ah (by omega),ah (by omega),ah (by omega),aC trivial]) (by simp only[dn];rw[ah (by omega),ah (by omega),ah (by omega),ah (by omega),aC trivial]) (by simp only[dn];rw[aC trivial];rfl) (Dx R) (.inl ⟨rfl,rfl,rfl⟩) (J.mono B) (K.imp (λh=>h) (λ⟨b,o,e1,e2⟩=>⟨b,o,e1,nI B e2⟩))
      (by simp only[dD,dK,ay,av,aU,not_or,not_false_iff,iM,List.nodup_nil];omega) (λz q=>by simp only[dD,ay,av,aU]at q;omega) (λz q=>by cases q) (by omega) (λhp=>by omega) (λk k1 C=>by simp only[dn];rw[ah (by omega),ah (by omega),ah C,ah (by omega),ah (by omega),ah (by omega),ah (by omega)]) (by omega) (λhp=>⟨rfl,by show _=f - 1 - ↑args.length - ((0:Nat):Int);omega⟩)
     exact H
  .have q:=zero none 0 (λ_=>rfl) (bM.1 e0)
   exact q
 .rintro s w m' N' B ⟨L,t',A,g2,F,S,hp⟩
  have U:w.low N=true:=by
   obtain⟨c,rfl,V⟩:=F;exact AV.qI V.vC
  refine⟨λk=>if k=l then .cells [zI L] 3 false false else if k<N then m k else .dead,⟨L,t',rfl,aC rfl,λk k1 C=>?_,λk=>?_,F,S,hp⟩,U,λk G=>?_⟩
  .show(if k=l then _ else if k<N then m k else .dead)=m k
   rw[ah C,aC k1]
  .show isCells (if k=l then _ else if k<N then m k else .dead)=true
   split
   .rfl
   .split
    .exact I k
    .rfl
  .show m' k=(if k=l then _ else if k<N then m k else .dead)∧_
   have G:AO.live (if k=l then AO.cells [zI L] 3 false false else if k<N then m k else .dead):=G;by_cases e1:k=l
   .subst e1
    refine⟨by rw[aC rfl];exact g2,.inr ⟨x,?_⟩⟩;show AO.low N (if k=k then AO.cells [zI L] 3 false false else _)=true;rw[aC rfl];rfl
   .rw[ah e1]at G
    by_cases e2:k<N
    .refine⟨by rw[ah e1,aC e2];exact A k e2 e1,.inl ?_⟩
     show(if k=l then _ else if k<N then m k else .dead)=m k;rw[ah e1,aC e2]
    .rw[ah e2]at G;exact G.elim
theorem NV:∀(n:Nat) (t:T),t.size<=n->t.DX->LX t
 |0,.node _ _ _ ks,h,_=>by have h:eX ks+1<=0:=h;omega
 |n+1,.node r a u ks,h,hr=>by
  have h:eX ks+1<=n+1:=h;refine ac8 W Y X Z rfl (λu b=>NV n u ?_ (Ko hr.2.2 b)) hr;have:∀(l:List T),u∈l->u.size<=eX l:=λl=>by
   induction l with
   |nil=>intro h;cases h
   |cons x l c=>
    intro h;show u.size<=x.size+eX l;rcases ay.1 h with rfl|h
    .omega
    .have:=c h;omega
  have:=this ks b;omega
end
end
section
variable{b:Nat}{v:AV}
section
variable(W:Fe)(Y:Ge)(X:∀old,Fw old)(Z:∀old,Gw old)
include W Y X Z
theorem Rw:∀(n x:Nat) (ts:List T) (ps:List AV) (f:Option Nat) (g:Bool) (old:Old),eX (ts.drop x)=n->x<=ts.length->65536<x+n->n<=268435456->ts.length<=65536->LV old ps ts->CG f g ts.length->
 fU prog E old (oF ts.length f x) ⟨zL (.cells ps 55 g false),1,0⟩ (λ_ v=>v= .gI [.aQ,.bool false])
 |0,x,ts,ps,f,g,old,i,A,B,_,C,l,hr=>by omega
 |n+1,x,ts,ps,f,g,old,i,A,B,D,C,l,hr=>by
  have e:x<ts.length:=by
   rcases aT x ts.length with h|h
   .exact h
   .rw[gG h]at i;cases i
  have j:ts.drop x=ts[x]::ts.drop (x+1):=bn e;obtain⟨t,r⟩:∃t,ts[x]? =some t:=⟨_,aI e⟩;have s:ts[x]=t:=aN ((aI e).symm.trans r);rw[s]at j;rw[j]at i;have F:t.size+eX (ts.drop (x+1))=n+1:=i;have G:=qp t;obtain⟨p,e1,b,o,cs,rfl,e2,H⟩:=l.get r;obtain⟨a,y,kc,ks,rfl,N,I,J⟩:=H.one;have K:=pV t.kids;by_cases z:65536<ts.length+t.kids.length
  .have A1:=ahv W Y old (X old) (Z old) ps g ts.length f x x rfl e b o (λh u=>mV (by kernel_rfl) rfl u (by rw[bJ];exact e1)) y t.kids.length kc (λh=>kT (by kernel_rfl) (pK e2 rfl)) (aB (by omega)) (aB (by rw[lT (by omega) (by omega)];omega))
   exact fU.does A1 (dF rfl) rfl (CO.low rfl rfl)
  .have A1:=or1 W Y old (X old) (Z old) ps g ts.length f x x rfl e b o (λh u=>mV (by kernel_rfl) rfl u (by rw[bJ];exact e1)) y t.kids.length kc (λh=>kT (by kernel_rfl) (pK e2 rfl)) (aB (by omega)) (aH (by rw[lT (by omega) (by omega)];omega))
   refine fU.of A1 (dF rfl) ?_;have fin:∀(c:List AV) (d:Option Nat) (g':Bool),LV old c (ts++t.kids)->CG d g' (ts++t.kids).length->fU prog E old (oF (ts++t.kids).length d (x+1:Nat)) ⟨zL (.cells c 55 g' false),1,0⟩ (λ_ v=>v= .gI [.aQ,.bool false]):=λc d g' m q=>by
    have w:(ts++t.kids).drop (x+1)=ts.drop (x+1)++t.kids:=by rw[List.drop_append_of_le_length (by omega)]
    exact Rw n (x+1) (ts++t.kids) c d g' old (by rw[w,CX];omega) (by rw[bC];omega) (by omega) (by omega) (by rw[bC];omega) m q
   rcases J with⟨k,rfl⟩|⟨O,ok,rfl,L⟩
   .have M:t.kids.length=0:=by rw[k];rfl
    refine fU.of (aex W Y old (X old) (Z old) ps g ts.length f x 0 t.kids.length (aH (by omega))) (dF rfl) ?_;rw[wrapN (by omega)];rw[k,dD]at fin;exact fin ps f g l hr
   .refine Vk W Y X Z old L I (by omega) t.kids.length 0 ps ts f g (by omega) l r hr (by omega) ⟨b,o,_,e1,e2,rfl⟩ ?_
    intro c d g' m q;rw[gB]at m q ⊢;exact fin c d g' m q
theorem agZ(old:Old){o:Nat}{t:T}(hp:CJ old (.ptr (OLD+b) o) t)(c:65536<t.size)(a:t.size<=268435456):jV prog E old 18 [.ptr (OLD+b) o] (λ_ v=>v= .gI [.aQ,.bool false]):=by
 refine jV.ofR (Z old) (by kernel_rfl) (fU.of (or0 W Y old (X old) (Z old) b o) (dF rfl) ?_);exact Rw W Y X Z t.size 0 [t] [.ptr (OLD+b) o] (some 1) false old (by show t.size+0=t.size;omega) (bK _) (by omega) a (show 1<=65536 by decide) (.cons hp .nil) (.inr ⟨rfl,rfl⟩)
theorem c7g(old:Old){t:T}(g:JO old v t)(i:65536<t.size)(e:t.size<=268435456):jV prog E old 7 [v] (λ_ w=>w=zI 65537):=by
 obtain⟨cs,rfl,h⟩:=g;obtain⟨a,j,kc,ks,rfl,l,m,n⟩:=h.one;refine jV.ofR (Z old) (by kernel_rfl) (fU.of (no1 W Y old (X old) (Z old) t.rel a t.rule j t.kids.length kc) (dF rfl) ?_);refine fU.box h rfl rfl (λb=>AF.sJ (by show(((true&&(Nat.blt (OLD+b) 0||Nat.ble OLD (OLD+b))&&true)&&true&&true)&&true)=true;rw[Ac];rfl)) λc b k hp=>?_;refine fU.yS (X c) (Z c) (no2 W Y c (X c) (Z c) b) (Fp b) rfl (dF rfl) (agZ W Y X Z c hp i e) ?_
 rintro d w f rfl
 exact fU.does (no4 W Y d (X d) (Z d) c b) (dF rfl) rfl (CO.low rfl rfl)
theorem c6g(old:Old){t:T}(g:JO old v t)(i:65536<t.size)(e:t.size<=268435456):jV prog E old 6 [v] (λ_ w=>w= .aQ):=by
 obtain⟨cs,rfl,h⟩:=g;obtain⟨a,j,kc,ks,rfl,l,m,n⟩:=h.one;refine jV.ofR (Z old) (by kernel_rfl) (fU.of (fo1 W Y old (X old) (Z old) t.rel a t.rule j t.kids.length kc) (dF rfl) ?_);refine fU.box h rfl rfl (λb=>AF.sJ (by show(((true&&(Nat.blt (OLD+b) 0||Nat.ble OLD (OLD+b))&&true)&&true&&true)&&true)=true;rw[Ac];rfl)) λc b k hp=>?_;refine fU.yS (X c) (Z c) (fo2 W Y c (X c) (Z c) b) (Fp b) rfl (dF rfl) (agZ W Y X Z c hp i e) ?_
 rintro d w f rfl
 exact fU.does (fo3 W Y d (X d) (Z d) c b) (dF rfl) rfl (CO.low rfl rfl)
end
end
section
variable(Y:Fe)(Z:Ge)
include Y Z
section
variable(X:Old)(F:Fw X)(W:Gw X)(r:List UInt8)(u:Int)
include X F W r u
theorem ct0(kn:Nat)(a k1:Option (Nat×Nat))(b c d:Nat)(n:Int):DS X (ent (E.wo X) 26 [kR r a b c u k1 kn d,zI n]) ⟨.e,0,0⟩ (Oc (zI (IntKind.i64.wrap (n+1))) (zI 0)) (je (eF r a b c u k1 kn d)):=
 qH F W [1,2,5] (Qn 18) (by kernel_rfl)
theorem ct1(kn:Nat)(c:Option (Nat×Nat))(a e1 d f b:Nat)(n j i:Int)(x:Nat)(k:i=(↑x:Int))(l:x<kn)(ca:List AV)(m:∀h:AH,loadT (E.wo X) h 27 (OLD+a) (e1+x*4)=some (.agg ca))(g:∀h:AH,Nat.ble h.nx OLD=true->h.df=0->DC X 26 [.agg ca,zI n] h (zI j) h)(o:(decide (i<(↑kn:Int)))=true)(p:(decide (n<=65536))=true):DS X (Oc (zI n) (zI i)) (je (sQ r c d f u a e1 kn b)) (Oc (zI j) (zI (IntKind.i64.wrap (i+1)))) (je (sQ r c d f u a e1 kn b)):=
 qH F W [1,2,5] (Qb 7 o (Qb 2 p (Qv 10 (jB (e:=27) (by kernel_rfl) (by kernel_rfl) rfl k l:aZ (E.wo X) 25 (nP (E.wo X) (.aO (some (a,e1)) kn b)) (zI i)=some (zP (1152921504606846976+a) (e1+x*4))) (Qv 0 (m (je (sQ r c d f u a e1 kn b))) (Qk 1 (g (je (sQ r c d f u a e1 kn b)) (by kernel_rfl) rfl) (Qn 9)))))) (by kernel_rfl)
theorem ct2(kn:Nat)(a k1:Option (Nat×Nat))(b c d:Nat)(n i:Int)(e:(decide (i<(↑kn:Int)))=false):DR X (Oc (zI n) (zI i)) (je (eF r a b c u k1 kn d)) (zI n) (je (eF r a b c u k1 kn d)):=
 prt F W (Qb 7 e (Qn 13)) (by kernel_rfl)
theorem ct3(kn:Nat)(a k1:Option (Nat×Nat))(b c d:Nat)(n i:Int)(e:(decide (i<(↑kn:Int)))=true)(f:(decide (n<=65536))=false):DR X (Oc (zI n) (zI i)) (je (eF r a b c u k1 kn d)) (zI n) (je (eF r a b c u k1 kn d)):=
 prt F W (Qb 7 e (Qb 2 f (Qn 10))) (by kernel_rfl)
theorem cn8(a k1:Option (Nat×Nat))(b c d f:Nat)(z:Int)(g:∀h:AH,Nat.ble h.nx OLD=true->h.df=0->DC X 26 [kR r a b c u k1 d f,zI 0] h (zI z) h):DR X (ent (E.wo X) 8 [kR r a b c u k1 d f]) ⟨.e,0,0⟩ (zI z) (je (eF r a b c u k1 d f)):=
 prt F W (Qk 8 (g (je (eF r a b c u k1 d f)) (by kernel_rfl) rfl) (Qn 3)) (by kernel_rfl)
end
theorem agy(old:Old)(F:Fw old)(FF:Gw old)(r:List UInt8)(u:Int)(a k1:Option (Nat×Nat))(b c d f:Nat)(z:Int)(g:∀h:AH,Nat.ble h.nx OLD=true->h.df=0->DC old 26 [kR r a b c u k1 d f,zI 0] h (zI z) h):DC old 8 [kR r a b c u k1 d f] ⟨.e,0,0⟩ (zI z) ⟨.e,0,0⟩:=
 DoesC.drop (DoesC.ent FF (by kernel_rfl) (cn8 Y Z old F FF r u a k1 b c d f z g )) [] (by kernel_rfl) (by kernel_rfl) (by kernel_rfl) rfl (by kernel_rfl) (by kernel_rfl) (by kernel_rfl)
end
end Go.Ev
