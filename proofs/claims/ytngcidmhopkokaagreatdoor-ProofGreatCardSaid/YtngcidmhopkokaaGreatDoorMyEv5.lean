/- A part of the proof that ProofGreat returns true. -/
import Derived.Test.YtngcidmhopkokaaGreatDoorMyEv4
import Derived.Test.YtngcidmhopkokaaGreatDoorMyEv1
set_option linter.all false
namespace Go.Ev
set_option maxRecDepth 100000
section
open Go.Conc (G)
variable{K:Ctx}{el:TypeId}{g:FuncId}{w:World}{z:Bool}{ι:Nm}
structure Lift(θ:Pm)(m:Mm)(l:List (Nat×AO))(N N':Nat)(h0 h0':AH):Prop where
 before:∀e∈ents h0.tr,m (θ.to e.1)=e.2.ren θ.to
 keys:∀e∈ents h0.tr,θ.to e.1∈l.map Prod.fst
 behind:∀e∈l,e.2.live->∃i o,h0'.tr.get i=some o∧θ.to i=e.1∧o.ren θ.to=e.2
 new:∀i,h0.nx<=i->i<h0'.nx->N<=θ.to i∧θ.to i<N'
 le:N<=N'
 nxO:Nat.ble h0'.nx OLD=true
 top:N'<=OLD
 df:h0.df=0
 df':h0'.df=0
theorem iT(θ:Pm)(l:List AV)(t:TypeId)(g z:Bool):(AO.cells (fQ θ l) t g z).ren θ.to= .cells l t g z:=by show AO.cells (AV.jC θ.to (fQ θ l)) t g z=_;rw[aaS]
theorem Mc(θ:Pm)(l:List AV)(n:Nat):(fQ θ l).take n=fQ θ (l.take n):=by unfold fQ;rw[xI,xI,List.map_take]
theorem mo(θ:Pm)(l r:List AV):fQ θ (l++r)=fQ θ l++fQ θ r:=by unfold fQ;rw[xI,xI,xI,jY]
section
variable{P:Program}{E:Env}{Z:Old}{f f':AF}{m U:Mm}{N N':Nat}{R R':rP}{θ:Pm}{l:List (Nat×AO)}{V Y:AH}
theorem Em(L:Lift θ m l N N' V Y)(hP:Of K P E)(S:FT K ι m w)(hf:Free ι N OLD):
 ∃r,Sub r K∧Of r P E∧Sat r (λi=>ι (θ.to i)) V w∧Free (λi=>ι (θ.to i)) V.nx Y.nx∧
  ∀a w',Kept K r w w'->Grow (λi=>ι (θ.to i)) a V.nx Y.nx->Sat r a Y w'->FT K (λk=>a (θ.inv k)) (dH m l) w'∧Ext ι (λk=>a (θ.inv k))∧Free (λk=>a (θ.inv k)) N' OLD:=by
 let X:Nat->Prop:=λk=>¬∃e∈ents V.tr,e.2.live∧θ.to e.1=k;let r:=Ctx.less K ι (λi o=>m i=o) X w S.lo S.lt;have s:Free (λi=>ι (θ.to i)) V.nx Y.nx:=λi h1 I=>hf _ (L.new i h1 I).1 (θ.lt (by have:=aF L.nxO;omega));have F:∀i o,V.tr.get i=some o->m (θ.to i)=o.ren θ.to:=λi o e=>L.before _ (CV e);have S0:Sat r (λi=>ι (θ.to i)) V w:=by
  refine⟨λi o e c=>?_,λi j o W p q e1 e2 l1 l2 hp x d=>?_,ah _,S.bs,S.old,S.os,S.tape,S.output,λg i p hi=>?_⟩
  .have t:=F i o e
   obtain⟨p,ob,e1,e2,y,z,A⟩:=S.objs (θ.to i) (o.ren θ.to) t (AO.dS.2 c);refine⟨p,ob,e1,e2,⟨y,λ⟨j,W,q,hx,hm,B,x,hqp⟩=>?_⟩,z,RO.iX (n:=OLD) (λi p _ hp=>hp) (AO.vD o) A⟩;have:θ.to i=j:=S.inj (θ.to i) j _ W p q t hm (AO.dS.2 c) B e1 x hqp.symm;exact hx ⟨(i,o),CV e,c,this⟩
  .exact θ.inj (S.inj _ _ _ _ p q (F i o e1) (F j W e2) (AO.dS.2 l1) (AO.dS.2 l2) hp x d)
  .have hi':OLD<=i:=Rq hi
   show ι (θ.to i)=some p;rw[θ.old i hi'];exact S.jU g i p hi
 refine⟨r,sG,⟨hP.P,hP.mem,hP.pk⟩,S0,s,λa w' u hg G=>?_⟩;have hE0:=hg.ext s;have D:Ext ι (λk=>a (θ.inv k)):=λk p g=>hE0 (θ.inv k) p (by show ι (θ.to (θ.inv k))=some p;rw[θ.ri];exact g);have hU:QA θ.to a (λk=>a (θ.inv k)):=λi p hi=>by show a (θ.inv (θ.to i))=some p;rw[θ.li];exact hi
 have Z:∀k,X k->(m k).live->∃p ob,ι k=some p∧¬K.fz p.1∧K.own p.1∧w'.heap[p.1]? =some ob∧RO K.P ι p.2 (m k) ob∧¬r.own p.1:=λk hx c=>by
  obtain⟨p,ob,e1,e2,y,z,A⟩:=S.objs k (m k) rfl c;have J:¬r.own p.1:=λh=>h.2 ⟨k,m k,p,hx,rfl,c,e1,rfl⟩;exact⟨p,ob,e1,e2,y,(u.same p.1 (lt_of_heap z) e2 y J).trans z,A,J⟩
 have v:∀k,¬k∈l.map Prod.fst->X k:=λk g ⟨e,h1,_,M⟩=>g (M▸L.keys e h1);have b:∀k,k∈l.map Prod.fst->(dH m l k).live->∃p ob,a (θ.inv k)=some p∧¬K.fz p.1∧r.own p.1∧w'.heap[p.1]? =some ob∧RO K.P (λk=>a (θ.inv k)) p.2 (dH m l k) ob∧∃o,Y.tr.get (θ.inv k)=some o∧o.live:=λk g c=>by
  obtain⟨i,o,h4,I,M⟩:=L.behind _ (QT g) c;simp only at I M;have B:o.live:=AO.dS.1 (by rw[M];exact c);obtain⟨p,ob,e1,e2,y,z,A⟩:=G.objs i o h4 B;have h5:θ.inv k=i:=by rw[← I,θ.li]
  refine⟨p,ob,by rw[h5];exact e1,e2,y,z,by rw[← M];exact RO.ren hU A,o,by rw[h5];exact h4,B⟩
 refine⟨⟨λk o e c=>?_,λi j o W p q e1 e2 l1 l2 hp x d=>?_,aQ S.lo u.size,G.bs,G.old,G.os,G.tape,G.output,λg i p hi=>D i p (S.jU g i p hi)⟩,D,λk h1 I=>?_⟩
 .subst e
  by_cases g:k∈l.map Prod.fst
  .obtain⟨p,ob,e1,e2,y,z,A,_⟩:=b k g c
   exact⟨p,ob,e1,e2,y.1,z,A⟩
  .rw[wM g]at c ⊢
   obtain⟨p,ob,e1,e2,y,z,A,_⟩:=Z k (v k g) c;exact⟨p,ob,D _ _ e1,e2,y,z,A.mono D⟩
 .subst e1;subst e2
  have hp:a (θ.inv i)=some p:=hp;have x:a (θ.inv j)=some q:=x;by_cases hi:i∈l.map Prod.fst<;>by_cases hj:j∈l.map Prod.fst
  .obtain⟨O,_,C,_,_,_,_,o1,a2,Q⟩:=b i hi l1
   obtain⟨q',_,H,_,_,_,_,o2,b2,T⟩:=b j hj l2;have:=G.inj _ _ o1 o2 p q a2 b2 Q T hp x d;rw[← θ.ri i,this,θ.ri]
  .obtain⟨O,_,C,_,Q,_⟩:=b i hi l1
   rw[wM hj]at l2;obtain⟨q',_,H,_,_,_,_,T⟩:=Z j (v j hj) l2;rw[hp]at C;cases C;have t:a (θ.inv j)=some q':=D _ _ H;rw[x]at t;cases t;exact aP (d▸Q) T
  .obtain⟨q',_,C,_,Q,_⟩:=b j hj l2
   rw[wM hi]at l1;obtain⟨O,_,H,_,_,_,_,T⟩:=Z i (v i hi) l1;rw[x]at C;cases C;have t:a (θ.inv i)=some O:=D _ _ H;rw[hp]at t;cases t;exact aP (d▸Q) T
  .rw[wM hi]at l1
   rw[wM hj]at l2;obtain⟨O,_,C,_⟩:=S.objs i _ rfl l1;obtain⟨q',_,H,_⟩:=S.objs j _ rfl l2;have ha:a (θ.inv i)=some O:=D _ _ C;have t:a (θ.inv j)=some q':=D _ _ H;rw[hp]at ha;cases ha;rw[x]at t;cases t;exact S.inj i j _ _ _ _ rfl rfl l1 l2 C H d
 .show a (θ.inv k)=none
  have hN:=L.le;by_cases J:V.nx<=θ.inv k∧θ.inv k<Y.nx
  .have:=(L.new _ J.1 J.2).2
   rw[θ.ri]at this;omega
  .rw[hg.same _ (by omega)]
   show ι (θ.to (θ.inv k))=none;rw[θ.ri];exact hf k (by omega) I
theorem dA.lift{f0 f0':AF}(L:Lift θ m l N N' V Y)(D:DoesS P (E.wo Z) f0 V f0' Y)(A:f0.plain)(C:f0'.plain)(e:f=f0.ren θ.to)(F:f0'.ren θ.to=f')(B:dA P E Z f' (dH m l) N' R):dA P E Z f m N R:=λK ι w fr c j y S z G I=>by
 subst e;subst F;obtain⟨u,t,v,J,o,after⟩:=Em L y S G;have M:RF (λi=>ι (θ.to i)) f0 fr:=z.Kn (n:=OLD) (λi p _ hp=>hp) A.low;have W:=D.2.2 u _ w fr (c::j) v J M o;rw[L.df]at W;refine(W.frame t (Kept.refl _ _ _) (Stop:=λd g w'=>Kept K u w w'∧AtF u (λi=>ι (θ.to i)) V.nx (c::j) f0' Y d g w') (λd g w' a b=>⟨a,b⟩)).bind ?_
 rintro d g w' ⟨q,h,r,rfl,O,Q,T,rfl⟩
 obtain⟨X,hE,hF⟩:=after h w' q O Q;rw[L.df'];have hU:QA θ.to h (λk=>h (θ.inv k)):=λi p hi=>by show h (θ.inv (θ.to i))=some p;rw[θ.li];exact hi
 have R1:RF (λk=>h (θ.inv k)) (f0'.ren θ.to) r:=T.aa5 hU C;have s:r.kind= .normal:=(z.mQ R1 (show(f0'.ren θ.to).x=(f0.ren θ.to).x from D.2.1)).trans I;exact(B K _ w' r c j y X R1 hF s).mono λ_ _ _ H=>Yl.up (Fz.refl K) (Old.le_refl _) hE H
theorem dA.Cw{f0:AF}{v0:AV}(L:Lift θ m l N N' V Y)(D:Does P (E.wo Z) f0 V v0 Y)(v:f0.plain)(e:f=f0.ren θ.to)(B:R Z (v0.ren θ.to) (dH m l) N'):dA P E Z f m N R:=λK ι w fr c j r S x y s=>by
 subst e;obtain⟨z,o,q,A,b,after⟩:=Em L r S y;have C:RF (λi=>ι (θ.to i)) f0 fr:=x.Kn (n:=OLD) (λi p _ hp=>hp) v.low;have W:=D.2 z _ w fr c j q A C (λt=>by rw[s]at t;cases t) b;rw[L.df]at W;refine W.frame o (Kept.refl _ _ _) ?_
 rintro d g w' h ⟨a,u,rfl,F,G,H,rfl⟩
 obtain⟨I,J,M⟩:=after a w' h F G;have O:QA θ.to a (λk=>a (θ.inv k)):=λi p hi=>by show a (θ.inv (θ.to i))=some p;rw[θ.li];exact hi
 rw[s];exact⟨K,Z,_,v0.ren θ.to,u,_,N',rfl,Fz.refl K,r,Old.le_refl _,J,I,H.ren O,M,B,L.df'⟩
theorem dA.yY{f0:AF}{X:List Kk}{xC:List AV}{h1:AH}{R1:rP}(F:Fits P (E.wo Z))(FF:dM P (E.wo Z))(L:Lift θ m l N N' V h1)(A:AtCall P (E.wo Z) X f0 V g xC h1)(p0:f0.plain)(Q:∀v,(gX P (E.wo Z) X f0 V v).plain)(e:f=f0.ren θ.to)
 (C:CallM P E Z g (AV.jC θ.to xC) (dH m l) N' R1)(B:∀old' v U y,Old.le Z old'->R1 old' v U y->dA P E old' ((gX P (E.wo Z) X f0 V (v.un θ)).ren θ.to) U y R):dA P E Z f m N R:=λK ι w fr cc j hP S RR hf hk=>by
 subst e;obtain⟨obs,e,H⟩:=A;unfold gX at B Q;cases hp:sj P (E.wo Z) X f0 V with
 |none=>rw[hp]at e;cases e
 |some p=>
  obtain⟨f1,Y,o⟩:=p;rw[hp]at e B Q;simp only at e B Q;cases hs:iw (E.wo Z) f1 Y with
  |none=>rw[hs]at e;cases e
  |some a=>
   rw[hs]at e B Q;cases a with
   |call f' d g' args' h1'=>
    simp only at e B Q;cases e;have D:=path_ok F FF X f0 V hp H;have hx:f'.x=f1.x:=vX hs;obtain⟨T,hsub,hP0,S0,t,after⟩:=Em L hP S hf;have R0:RF (λi=>ι (θ.to i)) f0 fr:=RR.Kn (n:=OLD) (λi p _ hp=>hp) p0.low;have hnx1:Y.nx<=h1.nx:=oz hs;have W:=D.2.2 T _ w fr (cc::j) hP0 S0 R0 (t.sub (ah _) hnx1);rw[L.df]at W;have W2:Walk P true T (λd2 g2 w'=>∃ι' c vs,g2=G (Frame.enter P g vs .normal) (c::cc::j)∧Grow (λi=>ι (θ.to i)) ι' V.nx h1.nx∧Sat T ι' h1 w'∧dJ ι' xC vs.toList∧(∀q v u,Ext ι' q->RV q v u->RF q (vZ (f',d) v) (c.finish u))∧d2=h1.df) 0 (G fr (cc::j)) w:=by
     refine W.bind ?_
     rintro d2 g2 w' ⟨ι1,fr1,rfl,hg1,hS1,hR1,rfl⟩
     have hf1:Free ι1 Y.nx h1.nx:=λi a b=>by rw[hg1.same i (.inr a)];exact t i (by have:=D.1;omega) b
     refine Walk.of rfl λw₁ I=>?_;have J:wJ P true T ι1 Y w₁ fr1 (cc::j) _:=step_ok hP0 F FF (hS1.rely I) hR1 hs;obtain⟨ι',c,vs,w'',es,k1,k2,k3,k4,⟨k5,k5'⟩,k6,k7⟩:=J hf1;refine⟨_,w'',es,k1,k6,.stop λw2 hr2=>⟨ι',c,vs,rfl,hg1.trans k2,k3.rely hr2,k4,k5,k7⟩⟩
    refine(W2.frame hsub (Kept.refl _ _ _) (Stop:=λd2 g2 w'=>Kept K T w w'∧∃ι' c vs,g2=G (Frame.enter P g vs .normal) (c::cc::j)∧Grow (λi=>ι (θ.to i)) ι' V.nx h1.nx∧Sat T ι' h1 w'∧dJ ι' xC vs.toList∧(∀q v u,Ext ι' q->RV q v u->RF q (vZ (f',d) v) (c.finish u))∧d2=h1.df) (λ_ _ _ a b=>⟨a,b⟩)).bind ?_
    rintro d2 g2 w' ⟨M,s,c,vs,rfl,hg,hS,hv,hres,rfl⟩
    obtain⟨S1,hE,hF⟩:=after s w' M hg hS;rw[L.df'];have hU:QA θ.to s (λk=>s (θ.inv k)):=λi p hi=>by show s (θ.inv (θ.to i))=some p;rw[θ.li];exact hi
    refine(C K _ w' vs c (cc::j) hP S1 (hv.ren hU) hF).bind ?_
    rintro d3 g3 w3 ⟨K',old',r,v,u,U,y,rfl,z,p',lo,hE2,S2,rv,hF2,r1,rfl⟩
    have hv0:RV (λi=>r (θ.to i)) (v.un θ) u:=RV.iX (n:=OLD) (ι:=r) (ρ:=θ.to) (λi p _ hp=>hp) (AV.vD _) (by rw[AV.jo];exact rv);have hR3:=hres (λi=>r (θ.to i)) (v.un θ) u (λi p hi=>hE2 (θ.to i) p (hU i p hi)) hv0;have hU2:QA θ.to (λi=>r (θ.to i)) r:=λi p hi=>hi;have hR4:RF r ((vZ (f',d) (v.un θ)).ren θ.to) (c.finish u):=hR3.aa5 hU2 (Q _);have hx2:((vZ (f',d) (v.un θ)).ren θ.to).x=(f0.ren θ.to).x:=by
     show(vZ (f',d) (v.un θ)).x=f0.x;have:(vZ (f',d) (v.un θ)).x=f'.x:=by cases f';rfl
     rw[this,hx,D.2.1]
    have O:(c.finish u).kind= .normal:=(RR.mQ hR4 hx2).trans hk;exact((B old' v U y lo r1 K' r w3 (c.finish u) cc j p' S2 hR4 hF2 O).fz z).mono λ_ _ _ H=>Yl.up z lo (λi p h=>hE2 i p (hE i p h)) H
   |_=>cases e
theorem FT.frz{id:Nat}{vs:List AV}{g:Bool}(A:Of K P (E.wo Z))(S:FT K ι m w)(F:m id= .cells vs el g z)(t:∀a∈vs,AV.low 0 a=true):
 ∃u old' p,ι id=some p∧Fz K u∧Of u P (E.wo old')∧Old.le Z old'∧(∀o a,vs[o]? =some a->old' p.1 o=some a)∧FT u ι (dH m [(id,.dead)]) w:=by
 have n:K.peek:=A.pk rfl;have G:=S.jU n;obtain⟨p,ob,e1,e2,O,H,Q⟩:=S.objs id _ F trivial;obtain⟨c,lo,hi,rfl,⟨l1,l2,T,W⟩,_⟩:=Q;have B:p.1<w.heap.size:=lt_of_heap H;let old':Old:=λb o=>if b=p.1 then vs[o]? else Z b o;let u:Ctx:={ P:=K.P,W0:=w,fz:=λb=>K.fz b∨b=p.1,lo:=w.heap.size,own:=λb=>K.own b∧b≠p.1,lN:=λb d=>⟨K.lN b (aQ S.lo d),by omega⟩,peek:=K.peek };have v:Old.le Z old':=by
  intro b o a e;show(if b=p.1 then vs[o]? else Z b o)=some a;by_cases d:b=p.1
  .exfalso
   have:=(A.mem b o a e).2.1;rw[d]at this;exact e2 this
  .rw[au d];exact e
 refine⟨u,old',p,e1,⟨rfl,λb d=> .inl d,λb d=>d.1,λb d=>d.imp (λd=>d) (λd=>by rw[d];exact O),λb d=>S.old b d,S.os,S.tape,S.output,λhp=>hp⟩,⟨A.P,λb o a e=>?_,λ_=>n⟩,v,λo a e=>by show(if p.1=p.1 then vs[o]? else Z p.1 o)=some a;rw[aH rfl];exact e,?_⟩
 .have e:(if b=p.1 then vs[o]? else Z b o)=some a:=e
  by_cases d:b=p.1
  .rw[aH d]at e
   obtain⟨x,h,r⟩:=W.get e;refine⟨n,.inr d,x,?_,RV.xO G (t a (bE e)) r⟩;show w.cell? ⟨b,o,none⟩=some x;rw[d,cell_of H,← bq,T,aU]
   .exact h
   .rw[aJ]at h;exact h.1
  .rw[au d]at e
   obtain⟨_,I,x,h,r⟩:=A.mem b o a e;refine⟨n,.inl I,x,?_,r⟩;show w.cell? ⟨b,o,none⟩=some x;unfold World.cell? at h ⊢;rw[S.old b I];exact h
 .have k:∀i o,dH m [(id,.dead)] i=o->o.live->i≠id∧m i=o:=λi o e s=>by
   subst e;by_cases hi:i=id
   .rw[show dH m [(id,.dead)] i= .dead from aH hi]at s;exact s.elim
   .exact⟨hi,(show dH m [(id,.dead)] i=m i from au hi).symm⟩
  refine⟨λi o e s=>?_,λi j o J p q e1 e2 l1 l2 hp X C=>S.inj i j o J p q (k i o e1 l1).2 (k j J e2 l2).2 l1 l2 hp X C,ah _,λb d=>d.elim (S.bs b) (λd=>by rw[d];exact B),λ_ _=>rfl,rfl,rfl,rfl,λ_=>G⟩;obtain⟨n1,L⟩:=k i o e s;obtain⟨q,ob,M,f2,f3,f4,f5⟩:=S.objs i o L s;have y:q.1≠p.1:=λD=>n1 (S.inj i id _ _ q p L F s trivial M e1 D);exact⟨q,ob,M,λD=>D.elim f2 y,⟨f3,y⟩,f4,f5⟩
theorem dA.af5{x:AX}{tm:Tr AV}{td:List AI}{ds:List AD}{r:Bool}{k id off n:Nat}{cap:Option Nat}{vs:List AV}{el:TypeId}{g z:Bool}(D:m id= .cells vs el g z)(q:∀a∈vs,AV.low 0 a=true)(F:tm.get k=some (.sl id off n cap))
 (B:∀(old':Old) (b c:Nat),Old.le Z old'->n<=c->(∀o a,vs[o]? =some a->old' b o=some a)->dA P E old' ⟨x,tm.set k (.aO (some (b,off)) n c),td,ds,r⟩ (dH m [(id,.dead)]) N R):dA P E Z ⟨x,tm,td,ds,r⟩ m N R:=λK ι w fr cc s G S d I v=>by
 obtain⟨J,old',p,e1,C,y,u,A,L⟩:=FT.frz G S D q;have M:=d.tm.2 k _ F;obtain⟨W,h1,i,e,j,_⟩:=kK M;rw[e1]at h1;cases h1;have R1:RF ι ⟨x,tm.set k (.aO (some (p.1,off)) n i),td,ds,r⟩ fr:=by
  refine⟨d.fn,⟨d.tm.1,λt b O=>?_⟩,d.todo,d.ds,d.mode,d.kind,d.round⟩;rcases Tr.pU O with⟨rfl,rfl⟩|⟨h1,Q⟩
  .rw[e];unfold RV;exact⟨none,rfl,j,λT=>(by cases T),λ_=>rfl⟩
  .exact d.tm.2 t b Q
 exact((B old' p.1 i u j A J ι w fr cc s y L R1 I v).fz C).mono λ_ _ _ H=>Yl.up C u (λ_ _ h=>h) H
theorem dA.BD{id off n i j:Nat}{cap:Option Nat}{vs ws:List AV}{el r:TypeId}{g z G I:Bool}(ho:m id= .cells vs el g z)(J:∀a∈vs,AV.low 0 a=true)(hi:m i= .cells ws r G I)(X:i≠id)(hj:ws[j]? =some (.sl id off n cap))
 (B:∀(old':Old) (b c:Nat),Old.le Z old'->n<=c->(∀o a,vs[o]? =some a->old' b o=some a)->dA P E old' f (dH m [(i,.cells (ws.set j (.aO (some (b,off)) n c)) r G I),(id,.dead)]) N R):dA P E Z f m N R:=λK ι w fr cc L hP S RR hf hkd=>by
 obtain⟨K',old',p,e1,z1,hP',M,hkn,t⟩:=FT.frz hP S ho J;have D:dH m [(id,.dead)] i= .cells ws r G I:=by rw[show dH m [(id,.dead)] i=m i from au X];exact hi
 obtain⟨q,ob,f1,f2,f3,f4,f5⟩:=t.objs i _ D trivial;have f6:=f5;obtain⟨c0,lo,hi0,hob,⟨l1,l2,hc,hv⟩,_⟩:=f6;obtain⟨u,hu1,hu2⟩:=hv.get hj;obtain⟨p',h1,d,e,A,_⟩:=kK hu2;rw[e1]at h1;cases h1;have F:RV ι (.aO (some (p.1,off)) n d) u:=by
  rw[e];unfold RV;exact⟨none,rfl,A,λC=>(by cases C),λ_=>rfl⟩
 let O:=dH m [(i,.cells (ws.set j (.aO (some (p.1,off)) n d)) r G I),(id,.dead)];have m2i:O i= .cells (ws.set j (.aO (some (p.1,off)) n d)) r G I:=aH rfl;have Q:∀k,k≠i->O k=dH m [(id,.dead)] k:=λk hk=>au hk;have S2:FT K' ι O w:=by
  refine⟨λk o ek T=>?_,λa b o o' p1 p2 ea eb la lb hp1 hp2 hpq=>?_,t.lo,t.bs,t.old,t.os,t.tape,t.output,t.jU⟩
  .subst ek
   by_cases s:k=i
   .subst s
    rw[m2i];refine⟨q,ob,f1,f2,f3,f4,?_⟩;rw[hob]at f5 ⊢;obtain⟨c',lo',D,W,⟨m1,O,mc,mv⟩,b1,b2,b3⟩:=f5;cases W;refine⟨c0,lo,hi0,rfl,⟨l1,l2,hc,?_⟩,λhg=>by rw[lg];exact b1 hg,b2,b3⟩;refine dJ.yT (by rw[lg];exact hv.length) λx a v C y=>?_;rw[List.getElem?_set]at C;split at C
    .rename_i hjx
     subst hjx;split at C
     .cases C
      rw[hu1]at y;cases y;exact F
     .cases C
    .obtain⟨v2,e2,r2⟩:=hv.get C
     rw[e2]at y;cases y;exact r2
   .rw[Q k s]at T ⊢
    exact t.objs k _ rfl T
  .have get:∀k,(O k).live->(dH m [(id,.dead)] k).live:=λk T=>by
    by_cases s:k=i
    .subst s;rw[D];trivial
    .rw[Q k s]at T;exact T
   subst ea;subst eb;exact t.inj a b _ _ p1 p2 rfl rfl (get a la) (get b lb) hp1 hp2 hpq
 exact((B old' p.1 d M A hkn K' ι w fr cc L hP' S2 RR hf hkd).fz z1).mono λ_ _ _ H=>Yl.up z1 M (λ_ _ h=>h) H
theorem dA.Bp{id:Nat}{vs vs':List AV}{el:TypeId}{g z:Bool}(hi:m id= .cells vs el g z)(r:vs'.length=vs.length)(s:∀ι p,dJ ι vs p->dJ ι vs' p)(B:dA P E Z f (dH m [(id,.cells vs' el g z)]) N R):dA P E Z f m N R:=λK ι w fr cc e t S u v h=>by
 refine B K ι w fr cc e t ?_ u v h;refine⟨λk o x d=>?_,λa b o M y A C eb D F i j n=>?_,S.lo,S.bs,S.old,S.os,S.tape,S.output,S.jU⟩
 .subst x
  by_cases c:k=id
  .rw[show dH m [(id,.cells vs' el g z)] k= .cells vs' el g z from aH c]
   subst c;obtain⟨q,ob,G,H,I,J,L⟩:=S.objs k _ hi trivial;exact⟨q,ob,G,H,I,J,L.Bp r (s ι)⟩
  .rw[show dH m [(id,.cells vs' el g z)] k=m k from au c]at d ⊢
   exact S.objs k _ rfl d
 .have get:∀k,(dH m [(id,.cells vs' el g z)] k).live->(m k).live:=λk d=>by
   by_cases c:k=id
   .subst c;rw[hi];trivial
   .rw[show dH m [(id,.cells vs' el g z)] k=m k from au c]at d;exact d
  subst C;subst eb;exact S.inj a b _ _ y A rfl rfl (get a D) (get b F) i j n
end
end
section
variable{P:Program}{E:Env}{Z:Old}{f f':AF}{m Y:Mm}{N N':Nat}{R R':rP}{θ:Pm}{l:List (Nat×AO)}{h0 X:AH}
theorem dA.Zk{x:AX}{tm:Tr AV}{td:List AI}{ds:List AD}{r:Bool}{k id off:Nat}{vs:List AV}{el:TypeId}{g z:Bool}(A:m id= .cells vs el g z)(c:∀a∈vs,AV.low 0 a=true)(C:tm.get k=some (.ptr id off))
 (B:∀(old':Old) (b:Nat),Old.le Z old'->(∀o a,vs[o]? =some a->old' b o=some a)->dA P E old' ⟨x,tm.set k (.ptr (OLD+b) off),td,ds,r⟩ (dH m [(id,.dead)]) N R):dA P E Z ⟨x,tm,td,ds,r⟩ m N R:=λK ι w fr cc d s S D F i=>by
 obtain⟨G,old',p,e1,t,j,e,n,I⟩:=FT.frz s S A c;have J:=S.jU (s.pk rfl);have R1:RF ι ⟨x,tm.set k (.ptr (OLD+p.1) off),td,ds,r⟩ fr:=D.slot C λu v=>by
  unfold RV at v ⊢;obtain⟨q,y,rfl⟩:=v;rw[e1]at y;cases y;exact⟨_,J _ _ (wU _),rfl⟩
 exact((B old' p.1 e n G ι w fr cc d j I R1 F i).fz t).mono λ_ _ _ H=>Yl.up t e (λ_ _ h=>h) H
theorem Jj{m:Mm}:∀{l:List (Nat×AO)},(∀e∈l,m e.1=e.2)->dH m l=m
 |[],_=>rfl
 |(i,o)::l,h=>by
  funext k;unfold dH;by_cases a:k=i
  .rw[aH a,a];exact(h (i,o) bK).symm
  .rw[au a,Jj λe b=>h e (bg _ b)]
noncomputable def roL(θ:Pm)(h:AH):List (Nat×AO):=(ents h.tr).map λe=>(θ.to e.1,e.2.ren θ.to)
theorem Yz{h:AH}{e:Nat×AO}(a:e∈roL θ h):∃i o,h.tr.get i=some o∧e=(θ.to i,o.ren θ.to):=by
 obtain⟨p,h1,rfl⟩:=bP.1 a;exact⟨p.1,p.2,NY h1,rfl⟩
theorem Ky{h:AH}(a:∀e∈ents h.tr,m (θ.to e.1)=e.2.ren θ.to):dH m (roL θ h)=m:=Jj λe b=>by
 obtain⟨p,h1,rfl⟩:=bP.1 b;exact a p h1
theorem Lift.ro{h:AH}(j:∀e∈ents h.tr,m (θ.to e.1)=e.2.ren θ.to)(k:N<=OLD)(d:Nat.ble h.nx OLD=true)(c:h.df=0):Lift θ m (roL θ h) N N h h:=
 ⟨j,λe g=>bP.2 ⟨_,bP.2 ⟨e,g,rfl⟩,rfl⟩,λe g _=>by
  obtain⟨i,o,h1,rfl⟩:=Yz g;exact⟨i,o,h1,rfl,rfl⟩,λi a b=>aP b (by omega),ah _,d,k,c,c⟩
theorem dA.abA{h:AH}{f0 f0':AF}(D:DoesS P (E.wo Z) f0 h f0' h)(c:∀e∈ents h.tr,m (θ.to e.1)=e.2.ren θ.to)(d:N<=OLD)(a:Nat.ble h.nx OLD=true)(b:h.df=0)(g:f0.plain)(i:f0'.plain)(e:f=f0.ren θ.to)(j:f0'.ren θ.to=f')(B:dA P E Z f' m N R):dA P E Z f m N R:=
 dA.lift (Lift.ro c d a b) D g i e j (by rw[Ky c];exact B)
theorem dA.Jw{h:AH}{f0:AF}{v0:AV}(D:Does P (E.wo Z) f0 h v0 h)(c:∀e∈ents h.tr,m (θ.to e.1)=e.2.ren θ.to)(d:N<=OLD)(a:Nat.ble h.nx OLD=true)(b:h.df=0)(g:f0.plain)(e:f=f0.ren θ.to)(B:R Z (v0.ren θ.to) m N):dA P E Z f m N R:=
 dA.Cw (Lift.ro c d a b) D g e (by rw[Ky c];exact B)
theorem dA.PE{h:AH}{f0:AF}{b:List Kk}{g:FuncId}{xC:List AV}{R1:rP}(F:Fits P (E.wo Z))(FF:dM P (E.wo Z))(A:AtCall P (E.wo Z) b f0 h g xC h)(i:∀e∈ents h.tr,m (θ.to e.1)=e.2.ren θ.to)(j:N<=OLD)(c:Nat.ble h.nx OLD=true)(d:h.df=0)(k:f0.plain)(n:∀v,(gX P (E.wo Z) b f0 h v).plain)(e:f=f0.ren θ.to)
 (C:CallM P E Z g (AV.jC θ.to xC) m N R1)(B:∀old' v Y a,Old.le Z old'->R1 old' v Y a->dA P E old' ((gX P (E.wo Z) b f0 h (v.un θ)).ren θ.to) Y a R):dA P E Z f m N R:=
 dA.yY F FF (Lift.ro i j c d) A k n e (by rw[Ky i];exact C) B
end
section
open Go.Conc (G)
variable{h:AH}{i:Nat}{o:AO}
mutual
theorem RV.back{ι ι':Nm}(g:Ext ι ι'):∀{a:AV} {v k:Value},RV ι a v->RV ι' a k->RV ι a k
 | .any,_,_,_,_=>by unfold RV;trivial
 | .one,_,_,_,h| .bool _,_,_,_,h| .int _ _,_,_,_,h| .str _,_,_,_,h| .nQ,_,_,_,h| .aM,_,_,_,h| .emp,_,_,_,h| .nT,_,_,_,h| .sD,_,_,_,h| .kH,_,_,_,h| .aO _ _ _,_,_,_,h=>by
   unfold RV at h ⊢;exact h
 | .ptr i o,_,_,h0,h=>by
   unfold RV at h0 h ⊢;obtain⟨p,hi,_⟩:=h0;obtain⟨q,d,e⟩:=h;have:=g _ _ hi;rw[this]at d;cases d;exact⟨p,hi,e⟩
 | .sl i o l c,_,_,h0,h=>by
   unfold RV at h0 h ⊢;obtain⟨p,hi,_⟩:=h0;obtain⟨q,d,e⟩:=h;have:=g _ _ hi;rw[this]at d;cases d;exact⟨p,hi,e⟩
 | .map i,_,_,h0,h=>by
   unfold RV at h0 h ⊢;obtain⟨p,hi,_⟩:=h0;obtain⟨q,d,e⟩:=h;have:=g _ _ hi;rw[this]at d;cases d;exact⟨p,hi,e⟩
 | .yield i,_,_,h0,h=>by
   unfold RV at h0 h ⊢;obtain⟨p,hi,_⟩:=h0;obtain⟨q,d,e⟩:=h;have:=g _ _ hi;rw[this]at d;cases d;exact⟨p,hi,e⟩
 | .fn f a b,_,_,h0,h=>by
   unfold RV at h0 h ⊢;obtain⟨n,r,_,j,s⟩:=h0;obtain⟨as,bs,e,h1,u⟩:=h;exact⟨as,bs,e,dJ.back g j h1,dJ.back g s u⟩
 | .iface t a,_,_,h0,h=>by
   unfold RV at h0 h ⊢;obtain⟨m,_,j⟩:=h0;obtain⟨x,e,h1⟩:=h;exact⟨x,e,RV.back g j h1⟩
 | .agg l,_,_,h0,h=>by
   unfold RV at h0 h ⊢;obtain⟨m,_,j⟩:=h0;obtain⟨x,e,h1⟩:=h;exact⟨x,e,dJ.back g j h1⟩
 | .bV l,_,_,h0,h=>by
   unfold RV at h0 h ⊢;obtain⟨m,_,j⟩:=h0;obtain⟨x,e,h1⟩:=h;exact⟨x,e,dJ.back g j h1⟩
theorem dJ.back{ι ι':Nm}(b:Ext ι ι'):∀{l:List AV} {vs vs':List Value},dJ ι l vs->dJ ι' l vs'->dJ ι l vs'
 |[],_,_,_,h=>by unfold dJ at h ⊢;exact h
 |a::l,_,_,h0,h=>by
  unfold dJ at h0 h ⊢;obtain⟨v0,g,_,c,d⟩:=h0;obtain⟨v,r,e,h1,f⟩:=h;exact⟨v,r,e,RV.back b c h1,dJ.back b d f⟩
end
def isCells:AO->Bool
 | .cells _ _ _ _=>true
 | .dead=>true
 |_=>false
theorem RO.back{P:Program}{ι ι':Nm}{cap:Nat}(f:Ext ι ι'){o:AO}{ob a:Obj}(i:isCells o=true)(h0:RO P ι cap o ob)(h:RO P ι' cap o a):RO P ι cap o a:=by
 cases o with
 |dead=>trivial
 |cells vs el g fz=>
  obtain⟨_,_,_,_,⟨_,_,_,b⟩,_⟩:=h0;obtain⟨c,lo,d,e,⟨l1,l2,e2,j⟩,h1,k,l⟩:=h;exact⟨c,lo,d,e,⟨l1,l2,e2,b.back f j⟩,h1,k,l⟩
 |_=>cases i
noncomputable def Hl(h:AH):Mm:=λi=>(h.tr.get i).getD .dead
theorem Af(e:h.tr.get i=some o):Hl h i=o:=by unfold Hl;rw[e];rfl
theorem DoesC.ofM{P:Program}{E:Env}{old:Old}{g:FuncId}{args:List AV}{h:AH}{v0:AV}(hp:posB (λi=>Nat.blt i h.nx) h.tr=true)(J:fH h.nx h.tr=true)(L:(ents h.tr).all (λe=>isCells e.2)=true)(m:h.df=0)(top:Nat.ble h.nx OLD=true)(M:AV.dX h.nx args=true)(N:v0.low 0=true)
 (C:CallM P E old g args (Hl h) h.nx (λ_ v B _=>v=v0∧∀i o,h.tr.get i=some o->B i=o)):DoesC P (E.wo old) g args h v0 h:=by
 have O:∀i o,h.tr.get i=some o->o.live->i<h.nx:=λi o e _=>aF (gW hp e);refine⟨ah _,λK ι w vs c n D S f Q R=>?_⟩;have F:=S.cap O J;have t:zK h.nx (λi=>i) ι (tZ h.nx ι):=λi p hi hp=>by unfold tZ;rw[aH hi];exact hp
 have T:dJ (tZ h.nx ι) args vs.toList:=dJ.iX t M (by rw[AV.pQ];exact f);have U:Free (tZ h.nx ι) h.nx OLD:=λi a b=>by unfold tZ;rw[au (by omega)]
 have r:Ext (tZ h.nx ι) ι:=λi p e=>by
  unfold tZ at e;split at e
  .exact e
  .cases e
 rw[m];have W:=C K _ w vs c n D (F.toM λi o e l=>by
  unfold Hl at e;cases G:h.tr.get i with
  |none=>rw[G]at e;subst e;exact l.elim
  |some q=>rw[G]at e;exact fZ some e) T U
 refine W.frame (⟨rfl,rfl,rfl,λ_ h=>h,λh=>h⟩:Sub K K) (Kept.refl _ _ _) ?_
 rintro d g' w' j ⟨K',old',ι',v,u,B,N',rfl,z,V,l,x,s,rv,fr,⟨rfl,X⟩,rfl⟩
 refine⟨ι,u,rfl,Grow.refl _ _,⟨λi o e H=>?_,S.inj,aQ S.lo j.size,λb k=>s.bs b (z.fz b k),λb k=>(s.old b (z.fz b k)).trans (z.heap b k),s.os.trans z.os,s.tape.trans z.tape,s.output.trans z.output,S.jU⟩,(RV.xO (s.jU (V.pk rfl)) N rv).mono (S.jU (D.pk rfl)),m.symm⟩;obtain⟨p,ob,e1,e2,e3,e4,Y⟩:=F.objs i o e H;obtain⟨q,y,I,Z,f3,f4,f5⟩:=s.objs i o (X i o e) H;rw[x i p e1]at I;cases I;have A:isCells o=true:=by
  have:=d9.1 L _ (CV e);exact this
 exact⟨p,y,r i p e1,λk=>Z (z.fz _ k),z.own _ f3,f4,(Y.back x A (by rw[← z.P];exact f5)).mono r⟩
theorem DoesC.Rt{P:Program}{E:Env}{old:Old}{g:FuncId}{args:List AV}{v0:AV}(C:dU P E old g args (λ_ w=>w=v0))(a:AV.dX 0 args=true)(b:v0.low 0=true):DoesC P (E.wo old) g args eH v0 eH:=
 DoesC.ofM (h:=eH) rfl rfl rfl rfl rfl a b (CallM.Rt C a λo w _ q=>⟨q,λi o e=>Af e⟩)
end
section
variable{df n:Nat}{g:FuncId}{ids:List Nat}
variable{P:Program}{E:Env}{f:AF}{h:AH}{v:AV}
noncomputable def aal(ids:List Nat)(p:AV×AH):AV×Tr AO×Nat×Nat:=(p.1,reach p.2.tr 100000 ids .e,p.2.nx,p.2.df)
noncomputable def RL(ids:List Nat)(p:AV×AH):AV×Tr AO×Bool×Nat:=(p.1,reach p.2.tr 100000 ids .e,Nat.ble p.2.nx OLD,p.2.df)
theorem TP{h c:AH}{t:Tr AO}(d:h.nx<=c.nx)(g:reach c.tr 100000 ids .e=t)(hp:posB (λi=>Nat.blt i c.nx) t=true)(j:fH c.nx t=true)(top:Nat.ble c.nx OLD=true):Moves (λi=>i) h.nx c ⟨t,c.nx,c.df⟩:=by
 refine⟨d,ah _,aF top,rfl,λ_ _=>rfl,λi a b=>⟨a,b⟩,λ_ _ _ _ e=>e,λi o e _=>⟨?_,?_⟩,j⟩
 .have:=gW hp e
  exact aF this
 .rw[AO.iO]
  subst g;exact oH (t:=c.tr) 100000 ids .e (λi o e=>by rw[Tr.dN]at e;cases e) i o e
theorem DoesC.sub{g:FuncId}{args:List AV}{a:AH}{t:Tr AO}(C:DoesC P E g args h v a)(ids:List Nat)(d:reach a.tr 100000 ids .e=t)(b:posB (λi=>Nat.blt i h.nx) h.tr=true)(c:fH h.nx h.tr=true)(hp:posB (λi=>Nat.blt i a.nx) t=true)(j:fH a.nx t=true)(top:Nat.ble a.nx OLD=true)(k:AV.dX h.nx args=true)(l:v.low a.nx=true):DoesC P E g args h v ⟨t,a.nx,a.df⟩:=
 DoesC.move (ρ:=λi=>i) (by rw[AV.iO];exact C) (TP C.1 d hp j top) k c (λi o e _=>aF (gW b e)) l
theorem DoesC.nat(F:Fits P E)(FF:dM P E){args:List AV}(ids:List Nat)(e:(Au E (qW E n) g args false h).map (RL ids)=some (v,h.tr,true,h.df))(hp:posB (λi=>Nat.blt i h.nx) h.tr=true)(c:fH h.nx h.tr=true)(d:AV.dX h.nx args=true)(j:v.low h.nx=true):DoesC P E g args h v h:=by
 obtain⟨p,b,a⟩:=aN.1 e;have:=DoesC.of_run F FF b;unfold RL at a;obtain⟨h1,k⟩:=iH a;obtain⟨l,m⟩:=iH k;obtain⟨o,q⟩:=iH m;rw[h1]at this;exact DoesC.drop this ids l hp c q o d j
theorem DoesC.afR(F:Fits P E)(FF:dM P E){nx:Nat}{t:Tr AO}{args:List AV}(ids:List Nat)(e:(Au E (qW E n) g args false h).map (aal ids)=some (v,t,nx,df))(b:posB (λi=>Nat.blt i h.nx) h.tr=true)(c:fH h.nx h.tr=true)(hp:posB (λi=>Nat.blt i nx) t=true)(j:fH nx t=true)(top:Nat.ble nx OLD=true)(k:AV.dX h.nx args=true)(l:v.low nx=true):DoesC P E g args h v ⟨t,nx,df⟩:=by
 obtain⟨p,d,a⟩:=aN.1 e;have:=DoesC.of_run F FF d;unfold aal at a;obtain⟨h1,m⟩:=iH a;obtain⟨o,q⟩:=iH m;obtain⟨r,s⟩:=iH q;subst h1 r s;exact DoesC.sub this ids o b c hp j top k l
theorem Does.nat(F:Fits P E)(FF:dM P E){b:Bool}{t:Tr AO}(ids:List Nat)(e:(qW E n f h).map (RL ids)=some (v,t,b,df)):∃a,Does P E f h v a∧reach a.tr 100000 ids .e=t∧Nat.ble a.nx OLD=b∧a.df=df:=by
 obtain⟨p,d,c⟩:=aN.1 e;unfold RL at c;obtain⟨h1,g⟩:=iH c;obtain⟨a,i⟩:=iH g;obtain⟨j,k⟩:=iH i;subst h1;exact⟨p.2,Does.of_run F FF d,a,j,k⟩
theorem DoesC.pad{g:FuncId}{args:List AV}{H:AH}(C:DoesC P E g args h v h)(ids:List Nat)(r:reach H.tr 100000 ids .e=h.tr)(hp:posB (λi=>Nat.blt i h.nx) h.tr=true)(s:fH h.nx h.tr=true)(m:Nat.ble h.nx H.nx=true)(top:Nat.ble H.nx OLD=true)(k:h.df=H.df)(u:AV.dX h.nx args=true):DoesC P E g args H v H:=by
 have h1:=aF m;have n:=aF top;have p:∀i o,h.tr.get i=some o->H.tr.get i=some o:=λi o e=>by
  rw[← r]at e;exact oH (t:=H.tr) 100000 ids .e (λi o e=>by rw[Tr.dN]at e;cases e) i o e
 have q:∀i o,h.tr.get i=some o->o.live->i<h.nx:=λi o e _=>aF (gW hp e);have w:∀i o,H.tr.get i=some o->o.live->(∃j c,h.tr.get j=some c∧i=j∧o=c.ren (λi=>i))∨(H.tr.get i=some o∧∀j c,h.tr.get j=some c->c.live->i≠j):=λi o e l=>by
  cases h0:h.tr.get i with
  |some c=>
   have:=p i c h0;rw[e]at this;cases this;exact .inl ⟨i,o,h0,rfl,(AO.iO _).symm⟩
  |none=>
   refine .inr ⟨e,λj c x _ d=>?_⟩;have d:i=j:=d;rw[d,x]at h0;cases h0
 have L:QE (λi=>i) h h H H:=⟨ah _,aQ h1 n,n,λ_ _ _ _ e=>e,λi hi=>gZ hi h1,λi a b=>aP b (by omega),λ_ _=>rfl,ah _,q,q,λi o e _=>by rw[AO.iO];exact p i o e,w,k,k,s⟩;have:=DoesC.frame C L u;rw[AV.pQ,AV.iO]at this;exact this
end
section
variable{E:Env}{t e:TypeId}{z:Nat}
theorem Pd(c:E.d t=some (.slice e))(f:(E.tt.get e).map (·.size)=some z){id n:Nat}:iN E t (.sl id 0 n none) none (some (zI (↑n:Int))) (some (zI (↑n:Int)))=some (.sl id 0 n (some n)):=by
 obtain⟨a,g,rfl⟩:=aN.1 f;unfold iN;rw[c];show(match E.tt.get e,(some (zI (↑n:Int)):Option AV)with
  |some a,none=>vY id 0 a.size n none (some (zI ↑n))
  |some a,some v=>match kW 0 n v with
   |some m=>pX id 0 a.size n m none (some (zI ↑n)) true
   |none=>none
  |_,_=>none)=_
 rw[g];have b:kW 0 n (zI (↑n:Int))=some n:=by
  show cond (decide (((0:Nat):Int)<=(↑n:Int)∧(↑n:Int)<=n)) (some (↑n:Int).toNat) none=_;rw[aA ⟨by omega,by omega⟩,bN];rfl
 show(match kW 0 n (zI (↑n:Int))with
  |some m=>pX id 0 a.size n m none (some (zI ↑n)) true
  |none=>none)=_
 rw[b];show pX id 0 a.size n n none (some (zI ↑n)) true=_;unfold pX;rw[show Uh (some (zI (↑n:Int))) n n true=some n from b];show some (AV.sl id (cond (Nat.beq n 0) 0 (0+0*a.size)) (n - 0) (some (n - 0)))=_;rw[jJ];cases Nat.beq n 0<;>rfl
end
section
variable{Z:Type}{cf:Z->Z->Int}
structure TO(cf:Z->Z->Int):Prop where
 refl:∀a,cf a a=0
 flip:∀{a b},cf a b<0->0<cf b a
 Lj:∀{a b},0<cf a b->cf b a<0
 trans:∀{a b c},cf a b<=0->cf b c<=0->cf a c<=0
variable(T:TO cf)
theorem TO.zero(T:TO cf){a b:Z}(h:cf a b=0):cf b a=0:=by
 rcases nP (cf b a) 0 with g|g|g
 .have:=T.flip g;omega
 .exact g
 .have:=T.Lj g;omega
theorem TO.not_lt(T:TO cf){a b:Z}(h:¬cf a b<0):cf b a<=0:=by
 rcases nP (cf a b) 0 with g|g|g
 .exact aP g h
 .have:=T.zero g;omega
 .have:=T.Lj g;omega
theorem TO.GY(T:TO cf){a b:Z}(h:cf a b<0):¬cf b a<=0:=by have:=T.flip h;omega
theorem TO.AJ(T:TO cf){a b c:Z}(h:cf a b<0)(g:cf b c<=0):cf a c<0:=by
 rcases nP (cf a c) 0 with k|k|k
 .exact k
 .have h1:=T.zero k
  have d:=T.trans g (iE h1);exact aP d (T.GY h)
 .have h1:=T.Lj k
  have d:=T.trans g (kC h1);exact aP d (T.GY h)
theorem TO.EU(T:TO cf){a b c:Z}(h:cf a b<=0)(g:cf b c<0):cf a c<0:=by
 rcases nP (cf a c) 0 with k|k|k
 .exact k
 .have h1:=T.zero k
  have d:=T.trans (iE h1) h;exact aP d (T.GY g)
 .have h1:=T.Lj k
  have d:=T.trans (kC h1) h;exact aP d (T.GY g)
theorem TO.eq_trans(T:TO cf){a b c:Z}(h:cf a b=0)(g:cf b c=0):cf a c=0:=by
 have h1:=T.trans (iE h) (iE g);have d:=T.trans (iE (T.zero g)) (iE (T.zero h));rcases nP (cf a c) 0 with k|k|k
 .exact aP d (T.GY k)
 .exact k
 .omega
def o8(cf:Z->Z->Int)(l:List Z):Prop:=l.Pairwise λa b=>cf a b<=0
def cls(cf:Z->Z->Int)(x:Z)(l:List Z):List Z:=l.filter λy=>cf x y==0
def qz(cf:Z->Z->Int)(l a:List Z):Prop:=∀x,cls cf x l=cls cf x a
theorem qg(x:Z)(l m:List Z):cls cf x (l++m)=cls cf x l++cls cf x m:=List.filter_append _ _
theorem Oa{x:Z}{l:List Z}(h:∀y∈l,cf x y≠0):cls cf x l=[]:=
 List.filter_eq_nil_iff.2 λy a=>by simpa using h y a
theorem qz.refl(l:List Z):qz cf l l:=λ_=>rfl
theorem qz.trans{l m n:List Z}(h:qz cf l m)(g:qz cf m n):qz cf l n:=λx=>(h x).trans (g x)
theorem qz.append{l a m b:List Z}(h:qz cf l a)(g:qz cf m b):qz cf (l++m) (a++b):=λx=>by rw[qg,qg,h x,g x]
include T in
theorem qz.mem{l m:List Z}(h:qz cf l m){a:Z}:a∈l↔a∈m:=by
 have k:∀l:List Z,a∈l↔a∈cls cf a l:=λl=>by simp[cls,fB,T.refl]
 rw[k l,k m,h a]
theorem qz.swap(T:TO cf){l m:List Z}(h:∀a∈l,∀b∈m,cf a b≠0):qz cf (l++m) (m++l):=λx=>by
 rw[qg,qg];rcases c:cls cf x l with _|⟨a,t⟩
 .simp
 .have d:a∈cls cf x l:=by rw[c];exact bK ..
  have⟨ha1,ha2⟩:=fB.1 d;have:cls cf x m=[]:=Oa λy f e=>h a ha1 y f (T.eq_trans (T.zero (by simpa using ha2)) e);rw[this];simp
theorem qz.mid{l m:List Z}(p q:List Z)(h:qz cf l m):qz cf (p++l++q) (p++m++q):=((qz.refl p).append h).append (qz.refl q)
theorem o8.append{l m:List Z}(h:o8 cf l)(g:o8 cf m)(k:∀a∈l,∀b∈m,cf a b<=0):o8 cf (l++m):=lJ.2 ⟨h,g,k⟩
theorem o8.left{l m:List Z}(h:o8 cf (l++m)):o8 cf l:=(lJ.1 h).1
theorem o8.right{l m:List Z}(h:o8 cf (l++m)):o8 cf m:=(lJ.1 h).2.1
theorem o8.cross{l m:List Z}(h:o8 cf (l++m)):∀a∈l,∀b∈m,cf a b<=0:=(lJ.1 h).2.2
theorem o8.rV(T:TO cf):∀{l m:List Z},qz cf l m->l.length=m.length
 |[],m,h=>by
  cases m with
  |nil=>rfl
  |cons b m=>have:=(qz.mem T h (a:=b)).2 (bK ..);cases this
 |a::l,m,h=>by
  have i:a∈m:=(qz.mem T h).1 (bK ..);have:∃p q,m=p++a::q∧∀b∈p,cf a b≠0:=by
   have h1:cls cf a m=a::cls cf a l:=by rw[← h a];simp[cls,T.refl]
   clear i h;induction m with
   |nil=>simp[cls]at h1
   |cons b m j=>
    by_cases e:cf a b=0
    .have:b::cls cf a m=a::cls cf a l:=by rw[← h1];simp[cls,e]
     injection this with e1 e2;exact⟨[],m,by rw[e1];rfl,λ_ h=>by cases h⟩
    .have:cls cf a m=a::cls cf a l:=by rw[← h1];simp[cls,e]
     obtain⟨p,q,e2,k⟩:=j this;exact⟨b::p,q,by rw[e2];rfl,λc d=>by rcases ay.1 d with rfl|d;exact e;exact k c d⟩
  obtain⟨p,q,e,hp⟩:=this;have n:qz cf l (p++q):=λx=>by
   have:=h x;rw[e,show p++a::q=p++([a]++q)by rfl,qg,qg]at this;rw[qg];by_cases g:cf x a=0
   .have f:cls cf x p=[]:=Oa λy o e=>hp y o (T.eq_trans (T.zero g) e)
    rw[f]at this ⊢;simpa[cls,g]using this
   .simpa[cls,g]using this
  have:=o8.rV T n;rw[e];simp at this ⊢;omega
theorem Ws(T:TO cf){P d f:List Z}{x:Z}(h:o8 cf P)(e:P=d++f)(k:∀p∈f,cf x p<0)(h1:∀p,d.getLast? =some p->¬cf x p<0):o8 cf (d++x::f)∧qz cf (P++[x]) (d++x::f):=by
 subst e;have j:∀a∈d,cf a x<=0:=by
  intro a c;rcases List.eq_nil_or_concat d with rfl|⟨q,p,rfl⟩
  .cases c
  .have hp:=T.not_lt (h1 p (by simp))
   have n:=h.left;simp only[List.concat_eq_append]at c n;rcases bF.1 c with g|g
   .exact T.trans (n.cross a g p (bR.2 rfl)) hp
   .rw[bR.1 g];exact hp
 refine⟨?_,?_⟩
 .refine o8.append h.left (dG.2 ⟨λp hp=>kC (k p hp),h.right⟩) λa c b i=>?_
  rcases ay.1 i with rfl|i
  .exact j a c
  .exact h.cross a c b i
 .have:=(qz.refl (cf:=cf) d).append (qz.swap T (l:=f) (m:=[x]) λa c b i e=>by
   rw[bR.1 i]at e;have:=k a c;have:=T.zero e;omega)
  simpa using this
end
section
variable{α:Type}{Z:α->α->Int}
inductive U4(Z:α->α->Int)(k:Nat):List α->Prop
 |last {l:List α}:l.length<=k->o8 Z l->U4 Z k l
 |more {u r:List α}:u.length=k->o8 Z u->U4 Z k r->U4 Z k (u++r)
theorem U4.small{k:Nat}{l:List α}(h:U4 Z k l)(a:l.length<=k):o8 Z l:=by
 cases h with
 |last _ h=>exact h
 |more h1 b c=>
  rename_i u r;simp at a;have:r=[]:=bB.1 (by omega);rw[this,bD];exact b
theorem U4.split{k:Nat}{l:List α}(h:U4 Z k l)(c:k<=l.length):∃u r,l=u++r∧u.length=k∧o8 Z u∧U4 Z k r:=by
 cases h with
 |last h1 a=>exact⟨l,[],by simp,by omega,a,.last (bT _) List.Pairwise.nil⟩
 |more h1 a b=>exact⟨_,_,rfl,h1,a,b⟩
end
section
open Go.Conc (G)
section
variable{P:Program}{E:Env}{f Y g:AF}{h Z X h':AH}{v u:AV}
theorem DoesS.round(F:Fits P E)(FF:dM P E){d:Option Tmp}{l:Nat}{args:List AV}(e:iw E f h=some (.round Y d l args Z))(i:qb Z l args=some g)(C:Does P E g Z u X):DoesS P E f h (vZ (Y,d) u) X:=by
 have I:h.nx<=Z.nx:=oz e;have r:Y.x=f.x:=vX e;refine⟨aQ I C.1,r,λK ι w fr cs t S R y=>?_⟩;refine Walk.of rfl λc m=>?_;have j:=S.rely m;have n:wJ P true K ι h c fr cs _:=step_ok t F FF j R e;obtain⟨rfl,k1,J⟩:=n;obtain⟨p,es,L,M,N,z⟩:=k1 g i;refine⟨_,c,es,L,M,?_⟩;rw[N];have s:g.x.deferred=false:=by
  unfold qb at i;split at i
  .rename_i st pd fn nt O ps a b d A
   cases B:Nat.beq args.length ps.length with
   |false=>rw[B]at i;cases i
   |true=>rw[B]at i;cases i;rfl
  .cases i
 have q:p.kind= .normal:=by rw[z.kind,s];rfl
 have W:=C.2 K ι c p fr cs t j z (by rw[q];intro r;cases r) y;rw[q]at W;refine W.bind ?_
 rintro d' g' Q ⟨k,D,rfl,G,T,U,rfl⟩
 have V:=G.ext y;exact .stop λH o=>⟨k,fr.finish D,rfl,G,T.rely o,J k u D V U,rfl⟩
def Ta(P:Program)(E:Env)(l:List Kk)(f:AF)(h:AH)(g:AF)(Z:AH):Prop:=
 ∃obs:List Prop,(match sj P E l f h with |some (a,h0,o)=>(match iw E a h0 with |some (.round _ _ l args Z)=>(match qb Z l args with |some g=>some (g,Z,o)|none=>none)|_=>none)|none=>none)=some (g,Z,obs)∧All obs
noncomputable def Xb(P:Program)(E:Env)(l:List Kk)(f:AF)(h:AH)(v:AV):AF:=
 match sj P E l f h with |some (a,h0,_)=>(match iw E a h0 with |some (.round Y d _ _ _)=>vZ (Y,d) v|_=>f)|none=>f
theorem DoesS.Sr(F:Fits P E)(FF:dM P E){l:List Kk}(A:Ta P E l f h g Z)(C:Does P E g Z u X):DoesS P E f h (Xb P E l f h u) X:=by
 obtain⟨obs,e,H⟩:=A;unfold Xb;cases hp:sj P E l f h with
 |none=>rw[hp]at e;cases e
 |some p=>
  obtain⟨j,h0,o⟩:=p;rw[hp]at e;simp only at e;cases b:iw E j h0 with
  |none=>rw[b]at e;cases e
  |some a=>
   rw[b]at e;cases a with
   |round Y d l args c=>
    simp only at e;cases i:qb c l args with
    |none=>rw[i]at e;cases e
    |some g'=>
     rw[i]at e;cases e;have T:=(path_ok F FF _ f h hp H).trans (DoesS.round F FF b i C);simp only[b];exact T
   |_=>cases e
end
end
section
open Go.Conc (G)
noncomputable def laid(g:Nat->Nat):List AO->Nat->Tr AO->Tr AO
 |[],_,t=>t
 |o::l,k,t=>laid g l (k+1) (t.set (g k) o)
noncomputable def mem(bs:List AO):AH:=⟨laid (λi=>i) bs 0 .e,bs.length,0⟩
section
variable{P:Program}{E:Env}{Z:Old}{Q:Old->AV->Prop}
end
end
section
open Go.Conc (G)
variable{a a':AV}{u:Value}{ι:Nm}
inductive Dp(ids:List Nat):AV->Prop
 |low {a:AV}:a.low 0=true->Dp ids a
 |ptr {i o:Nat}:i∈ids->Dp ids (.ptr i o)
 |sl {i o n:Nat} {cap:Option Nat}:i∈ids->Dp ids (.sl i o n cap)
 |clo {f:FuncId} {i o:Nat}:i∈ids->Dp ids (.fn f [] [.ptr i o])
inductive Told(β:Nat->Option Nat):AV->AV->Prop
 |low {a:AV}:a.low 0=true->a≠.aM->Told β a a
 |nil:Told β .aM (.aO none 0 0)
 |ptr {i o b:Nat}:β i=some b->Told β (.ptr i o) (.ptr (OLD+b) o)
 |sl {i o n b c:Nat} {cap:Option Nat}:β i=some b->n<=c->Told β (.sl i o n cap) (.aO (some (b,o)) n c)
 |clo {f:FuncId} {i o b:Nat}:β i=some b->Told β (.fn f [] [.ptr i o]) (.fn f [] [.ptr (OLD+b) o])
def Ba(d:Nat->Option Nat)(l b:List AV):Prop:=l.length=b.length∧∀(i:Nat) (a:AV),l[i]? =some a->∃c,b[i]? =some c∧Told d a c
theorem Ry(b o:Nat):AV.low 0 (.ptr (OLD+b) o)=true:=by
 show(Nat.blt (OLD+b) 0||Nat.ble OLD (OLD+b))=true;rw[aW (dZ _ _),jm]
theorem Told.lw{b:Nat->Option Nat}(h:Told b a a'):AV.low 0 a'=true:=by
 cases h with
 |low h=>exact h
 |nil=>rfl
 |ptr=>exact Ry _ _
 |sl=>rfl
 |clo=>show(AV.dX 0 []&&(AV.low 0 (.ptr (OLD+_) _)&&true))=true;rw[Ry];rfl
theorem Ba.lw{c:Nat->Option Nat}{l b:List AV}(h:Ba c l b):∀a∈b,AV.low 0 a=true:=λa d=>by
 obtain⟨i,hi,rfl⟩:=jN.1 d;obtain⟨f,h1,e⟩:=h.2 i _ (aK (by rw[h.1];exact hi));rw[aK hi]at h1;cases h1;exact e.lw
theorem MV(b:Nat):dI (OLD+b)=some (b,0):=by unfold dI;rw[aH (dZ _ _),dK]
theorem Dp.told{ids:List Nat}{e:Nat->Option Nat}(n:Ext dI ι)(c:∀i∈ids,∃p,ι i=some p∧e i=some p.1)(o:Dp ids a)(h:RV ι a u):∃f,Told e a f∧RV dI f u:=by
 cases o with
 |low g=>
  by_cases j:a= .aM
  .subst j
   refine⟨_,.nil,?_⟩;unfold RV at h ⊢;exact⟨none,h,ah _,λ_=>⟨rfl,rfl⟩,λ_=>rfl⟩
  .exact⟨a,.low g j,RV.xO n g h⟩
 |ptr hi=>
  obtain⟨p,e1,e2⟩:=c _ hi;refine⟨_,.ptr e2,?_⟩;unfold RV at h ⊢;obtain⟨q,b,rfl⟩:=h;rw[e1]at b;cases b;exact⟨_,MV _,rfl⟩
 |sl hi=>
  obtain⟨p,e1,e2⟩:=c _ hi;obtain⟨q,b,k,rfl,d,_⟩:=kK h;rw[e1]at b;cases b;refine⟨_,.sl e2 d,?_⟩;unfold RV;exact⟨none,rfl,d,λs=>(by cases s),λ_=>rfl⟩
 |clo hi=>
  obtain⟨p,e1,e2⟩:=c _ hi;refine⟨_,.clo e2,?_⟩;obtain⟨as,bs,rfl,h1,t⟩:=wB h;unfold RV;refine⟨as,bs,rfl,?_,?_⟩
  .rw[bJ h1];exact bS
  .obtain⟨v,r,w,l,x⟩:=aX t
   rw[w];refine bQ ?_ (by rw[bJ x];exact bS);unfold RV at l ⊢;obtain⟨q,b,rfl⟩:=l;rw[e1]at b;cases b;exact⟨_,MV _,rfl⟩
theorem Dp.Vi{ids:List Nat}{g:Nat->Option Nat}{ι:Nm}(j:Ext dI ι)(c:∀i∈ids,∃p,ι i=some p∧g i=some p.1):∀{l:List AV} {d:List Value},(∀a∈l,Dp ids a)->dJ ι l d->∃e,Ba g l e∧dJ dI e d
 |[],d,_,h=>⟨[],⟨rfl,λi a h=>by cases h⟩,by rw[bJ h];exact bS⟩
 |a::l,d,k,h=>by
  obtain⟨v,r,rfl,h1,o⟩:=aX h;obtain⟨n,t1,t2⟩:=Dp.told j c (k a (bK ..)) h1;obtain⟨e,⟨t3,t4⟩,t5⟩:=Dp.Vi j c (λb f=>k b (bg _ f)) o;refine⟨n::e,⟨by simp[t3],λi b f=>?_⟩,bQ t2 t5⟩;cases i with
  |zero=>cases f;exact⟨n,rfl,t1⟩
  |succ i=>exact t4 i b (by simpa using f)
section
variable{P:Program}{E:Env}{Y:Old}{m:Mm}{N:Nat}
open Classical in
theorem CallM.borrow{ids:List Nat}{g:FuncId}{args:List AV}{Q:AV->Prop}(hc:∀i∈ids,∃vs el g z,m i= .cells vs el g z∧∀a∈vs,Dp ids a)(G:∀a∈args,Dp ids a)
 (B:∀(old':Old) (H:Nat->Option Nat) (l:List AV),Old.le Y old'->Ba H args l->(∀i∈ids,∃b,H i=some b∧∀vs el g z,m i= .cells vs el g z->∃vs',Ba H vs vs'∧∀(o:Nat) a,vs'[o]? =some a->old' b o=some a)->
  ∃Q':AV->Prop,dU P E old' g l (λ_ v=>Q' v)∧∀v,Q' v->v.low 0=true∧Q v):
 CallM P E Y g args m N (λ_ v m' N'=>Q v∧v.low 0=true∧m'=m∧N'=N):=by
 intro K ι w vs c rest hP S J hf;have t:K.peek:=hP.pk rfl;have hE:=S.jU t;let H:Nat->Option Nat:=λi=>if i∈ids then(ι i).map (·.1)else none;have obj:∀i∈ids,∃p us ws el g z,ι i=some p∧m i= .cells ws el g z∧¬K.fz p.1∧K.own p.1∧dJ ι ws us∧(∀o x,us[o]? =some x->w.cell? ⟨p.1,o,none⟩=some x)∧p.1<w.heap.size:=λi hi=>by
  obtain⟨ws,el,g,z,e,_⟩:=hc i hi;obtain⟨p,ob,e1,e2,X,y,L⟩:=S.objs i (m i) rfl (by rw[e];trivial);rw[e]at L;obtain⟨cc,lo,hi',rfl,⟨l1,l2,hcc,hv⟩,_⟩:=L;refine⟨p,l1,ws,el,g,z,e1,e,e2,X,hv,λo x hx=>?_,lt_of_heap y⟩;rw[cell_of y,← bq,hcc,aU]
  .exact hx
  .rw[aJ]at hx;exact hx.1
 have M:∀i∈ids,∃p,ι i=some p∧H i=some p.1:=λi hi=>by
  obtain⟨p,_,_,_,_,_,e1,_⟩:=obj i hi;exact⟨p,e1,by show(if i∈ids then(ι i).map (·.1)else none)=_;rw[aH hi,e1];rfl⟩
 have tl:∀i∈ids,∃p A,ι i=some p∧(∀vs el g z,m i= .cells vs el g z->Ba H vs A)∧(∀(o:Nat) a,A[o]? =some a->AV.low 0 a=true∧∃x,w.cell? ⟨p.1,o,none⟩=some x∧RV dI a x):=λi hi=>by
  obtain⟨p,us,ws,el,g,z,e1,e2,X,y,L,e6,e7⟩:=obj i hi;obtain⟨ws2,el2,g2,z2,e,ht⟩:=hc i hi;rw[e2]at e;cases e;obtain⟨A,t1,t2⟩:=Dp.Vi hE M ht L;refine⟨p,A,e1,λvs el g z e=>by rw[e2]at e;cases e;exact t1,λo a G=>?_⟩;obtain⟨x,r,s⟩:=t2.get G;exact⟨t1.lw a (bE G),x,e6 o x r,s⟩
 let F:Nat->List AV:=λi=>if h:i∈ids then Classical.choose (Classical.choose_spec (tl i h))else[];have hF:∀i (h:i∈ids),∃p,ι i=some p∧(∀vs el g z,m i= .cells vs el g z->Ba H vs (F i))∧(∀(o:Nat) a,(F i)[o]? =some a->AV.low 0 a=true∧∃x,w.cell? ⟨p.1,o,none⟩=some x∧RV dI a x):=λi h=>by
  have hFi:F i=Classical.choose (Classical.choose_spec (tl i h)):=dif_pos h;rw[hFi];exact⟨_,Classical.choose_spec (Classical.choose_spec (tl i h))⟩
 let Z:Nat->Prop:=λb=>∃i∈ids,∃p,ι i=some p∧p.1=b;have O:∀b,Z b->¬K.fz b∧K.own b∧b<w.heap.size:=λb ⟨i,hi,p,h1,h2⟩=>by
  obtain⟨q,_,_,_,_,_,e1,_,X,y,_,_,e7⟩:=obj i hi;rw[h1]at e1;cases e1;subst h2;exact⟨X,y,e7⟩
 let n:Old:=λb o=>if h:Z b then(F (Classical.choose h))[o]? else Y b o;have R:∀i∈ids,∀p,ι i=some p->∀(o:Nat) a,(F i)[o]? =some a->n p.1 o=some a:=λi hi p hp o a G=>by
  have h:Z p.1:=⟨i,hi,p,hp,rfl⟩;show(if h:Z p.1 then(F (Classical.choose h))[o]? else Y p.1 o)=some a;rw[dif_pos h];have hs:=Classical.choose_spec h;obtain⟨hj,q,hq,T⟩:=hs;have:Classical.choose h=i:=by
   obtain⟨ws,el,g,z,e,_⟩:=hc i hi;obtain⟨ws2,el2,g2,z2,e2,_⟩:=hc _ hj;exact S.inj _ _ _ _ q p rfl rfl (by rw[e2];trivial) (by rw[e];trivial) hq hp T
  rw[this];exact G
 let K1:Ctx:={ P:=K.P,W0:=w,fz:=λb=>K.fz b∨Z b,lo:=w.heap.size,own:=λb=>K.own b∧¬Z b,lN:=λb d=>⟨K.lN b (aQ S.lo d),λf=>by have:=(O b f).2.2;omega⟩,peek:=K.peek };have z1:Fz K K1:=⟨rfl,λb d=> .inl d,λb d=>d.1,λb d=>d.imp (λh=>h) (λh=>(O b h).2.1),λb d=>S.old b d,S.os,S.tape,S.output,λhp=>hp⟩;have I:Old.le Y n:=λb o a e=>by
  show(if h:Z b then(F (Classical.choose h))[o]? else Y b o)=some a;rw[dif_neg λf=>(O b f).1 (hP.mem b o a e).2.1];exact e
 have hP1:Of K1 P (E.wo n):=by
  refine⟨hP.P,λb o a e=>?_,λ_=>t⟩;have e:(if h:Z b then(F (Classical.choose h))[o]? else Y b o)=some a:=e;by_cases f:Z b
  .rw[dif_pos f]at e
   obtain⟨hj,q,hq,T⟩:=Classical.choose_spec f;obtain⟨p,hp,_,h3⟩:=hF _ hj;rw[hq]at hp;cases hp;obtain⟨_,x,r,s⟩:=h3 o a e;exact⟨t,.inr f,x,by rw[← T];exact r,s⟩
  .rw[dif_neg f]at e
   obtain⟨_,D,x,r,s⟩:=hP.mem b o a e;refine⟨t,.inl D,x,?_,s⟩;show w.cell? ⟨b,o,none⟩=some x;unfold World.cell? at r ⊢;rw[S.old b D];exact r
 obtain⟨l,ta,tr⟩:=Dp.Vi hE M G J;obtain⟨Q',C,hQ⟩:=B n H l I ta (λi hi=>by
  obtain⟨p,hp,h2,h3⟩:=hF i hi;obtain⟨q,hq,hq2⟩:=M i hi;rw[hp]at hq;cases hq;exact⟨p.1,hq2,λvs el g z e=>⟨F i,h2 vs el g z e,λo a G=>R i hi p hp o a G⟩⟩)
 have Sb:Sat K1 dI eH w:=⟨λi o e=>(by rw[show eH.tr.get i=none from Tr.dN i]at e;cases e),λi j o o' p q e=>(by rw[show eH.tr.get i=none from Tr.dN i]at e;cases e),ah _,λb d=>d.elim (S.bs b) (λd=>(O b d).2.2),λ_ _=>rfl,rfl,rfl,rfl,λ_ _ _ h=>h⟩;refine((C K1 w vs c rest hP1 Sb tr).fz z1).mono ?_
 rintro d' g' w'' ⟨U,old2,v,u,rfl,z2,p2,l2,q2,rv,V,rfl,hsz,W⟩
 have k:=z1.trans z2;have hZw:∀b,Z b->w''.heap[b]? =w.heap[b]? :=λb f=>(V.old b (z2.fz b (.inr f))).trans (z2.heap b (.inr f));let K3:Ctx:={ P:=U.P,W0:=U.W0,fz:=λb=>U.fz b∧¬Z b,lo:=U.lo,own:=λb=>U.own b∨Z b,lN:=λb d=> .inl (U.lN b d),peek:=U.peek };obtain⟨hvl,hv⟩:=hQ v q2;refine⟨K3,Y,ι,v,u,m,N,rfl,⟨k.P,λb d=>⟨k.fz b d,λf=>(O b f).1 d⟩,λb d=>d.elim (k.own b) (λf=>(O b f).2.1),λb d=>k.new b d.1,λb d=>k.heap b d,k.os,k.tape,k.output,k.peek⟩,⟨p2.P,λb o a e=>?_,λ_=>p2.pk rfl⟩,Old.le_refl _,λ_ _ h=>h,?_,rv.mono hE,hf,⟨hv,hvl,rfl,rfl⟩,rfl⟩
 .obtain⟨_,D,_⟩:=hP.mem b o a e
  obtain⟨h1,h2,h3⟩:=p2.mem b o a (l2 b o a (I b o a e));exact⟨h1,⟨h2,λf=>(O b f).1 D⟩,h3⟩
 .refine⟨λi o e hl=>?_,S.inj,V.lo,λb d=>V.bs b d.1,λb d=>V.old b d.1,V.os,V.tape,V.output,λ_=>hE⟩
  obtain⟨p,ob,e1,e2,X,y,L⟩:=S.objs i o e hl;by_cases f:Z p.1
  .exact⟨p,ob,e1,λh=>h.2 f,.inr f,(hZw _ f).trans y,by rw[k.P];exact L⟩
  .obtain⟨m1,m2,m3⟩:=W p.1 (lt_of_heap y) (λh=>h.elim e2 f) ⟨X,f⟩
   exact⟨p,ob,e1,λh=>m2 h.1,.inl m1,m3.trans y,by rw[k.P];exact L⟩
end
end
end Go.Ev
