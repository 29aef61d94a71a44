/- A part of the proof that ProofBack returns true. -/
import Derived.Test.YtencnjmceojnjaaGreatDoorMyEv4
import Derived.Test.YtencnjmceojnjaaGreatDoorMyEv1
set_option linter.all false
namespace Go.Ev
set_option maxRecDepth 100000
section
open Go.Conc (G)
noncomputable def laid(g:Nat->Nat):List AO->Nat->Tr AO->Tr AO
 |[],_,t=>t
 |o::l,k,t=>laid g l (k+1) (t.set (g k) o)
noncomputable def mem(bs:List AO):AH:=⟨laid (λi=>i) bs 0 .e,bs.length,0⟩
section
variable{P:Program}{E:Env}{Z:Old}{Q:Old->AV->Prop}
end
end
section
open Go.Conc (G)
variable{g:FuncId}
structure Pm where
 to:Nat->Nat
 inv:Nat->Nat
 li:∀x,inv (to x)=x
 ri:∀x,to (inv x)=x
 old:∀x,OLD<=x->to x=x
theorem Pm.inj(θ:Pm){x y:Nat}(h:θ.to x=θ.to y):x=y:=by rw[← θ.li x,h,θ.li]
theorem Pm.lt(θ:Pm){x:Nat}(h:x<OLD):θ.to x<OLD:=by
 rcases aT (θ.to x) OLD with h1|h1
 .exact h1
 .have:=θ.old _ h1
  have:=θ.inj this;omega
def swp(a b x:Nat):Nat:=if x=a then b else if x=b then a else x
theorem WA(a b x:Nat):swp a b (swp a b x)=x:=by
 unfold swp;by_cases h1:x=a
 .rw[aC h1]
  by_cases c:b=a
  .rw[aC c];omega
  .rw[ah c,aC rfl];exact h1.symm
 .rw[ah h1]
  by_cases c:x=b
  .rw[aC c,aC rfl];exact c.symm
  .rw[ah c,ah h1,ah c]
theorem adL(a b:Nat):swp a b a=b:=aC rfl
theorem ZE{a b x:Nat}(h1:x≠a)(c:x≠b):swp a b x=x:=by unfold swp;rw[ah h1,ah c]
def Pm.one:Pm:=⟨id,id,λ_=>rfl,λ_=>rfl,λ_ _=>rfl⟩
def Pm.sw(θ:Pm)(a b:Nat)(c:a<OLD)(d:b<OLD):Pm where
 to:=λx=>swp a b (θ.to x)
 inv:=λx=>θ.inv (swp a b x)
 li:=λx=>by show θ.inv (swp a b (swp a b (θ.to x)))=x;rw[WA,θ.li]
 ri:=λx=>by show swp a b (θ.to (θ.inv (swp a b x)))=x;rw[θ.ri,WA]
 old:=λx h=>by show swp a b (θ.to x)=x;rw[θ.old x h,ZE (by omega) (by omega)]
theorem Pm.of:∀(a b:List Nat),a.length=b.length->a.Nodup->b.Nodup->(∀x∈a,x<OLD)->(∀x∈b,x<OLD)->∃θ:Pm,a.map θ.to=b
 |[],[],_,_,_,_,_=>⟨Pm.one,rfl⟩
 |x::a,y::b,k,i,j,d,g=>by
  rw[dK]at i j;obtain⟨θ,h⟩:=Pm.of a b (by simpa using k) i.2 j.2 (λz c=>d z (aY _ c)) (λz c=>g z (aY _ c));refine⟨θ.sw (θ.to x) y (θ.lt (d x dA)) (g y dA),?_⟩;show swp (θ.to x) y (θ.to x)::a.map (λz=>swp (θ.to x) y (θ.to z))=y::b;rw[adL];congr 1;rw[← h];apply List.map_congr_left;intro z c;refine ZE (λe=>i.1 (θ.inj e▸c)) (λe=>j.1 ?_);rw[← h,← e];exact List.mem_map_of_mem c
 |[],_::_,h,_,_,_,_=>by cases h
 |_::_,[],h,_,_,_,_=>by cases h
mutual
theorem AV.OI{ρ σ:Nat->Nat}(h:∀x,ρ (σ x)=x):∀a:AV,(a.ren σ).ren ρ=a
 | .ptr i o=>by show AV.ptr (ρ (σ i)) o=_;rw[h]
 | .sl i o l c=>by show AV.sl (ρ (σ i)) o l c=_;rw[h]
 | .map i=>by show AV.map (ρ (σ i))=_;rw[h]
 | .yield i=>by show AV.yield (ρ (σ i))=_;rw[h]
 | .fn f a b=>by
   show AV.fn f (AV.jM ρ (AV.jM σ a)) (AV.jM ρ (AV.jM σ b))=_;rw[AV.y9 h,AV.y9 h]
 | .iface t v=>by show AV.iface t ((v.ren σ).ren ρ)=_;rw[AV.OI h]
 | .agg l=>by show AV.agg (AV.jM ρ (AV.jM σ l))=_;rw[AV.y9 h]
 | .gI l=>by show AV.gI (AV.jM ρ (AV.jM σ l))=_;rw[AV.y9 h]
 | .any| .one| .bool _| .int _ _| .str _| .pO| .aQ| .emp| .aO _ _ _| .pF| .um| .uj=>rfl
theorem AV.y9{ρ σ:Nat->Nat}(h:∀x,ρ (σ x)=x):∀l:List AV,AV.jM ρ (AV.jM σ l)=l
 |[]=>rfl
 |a::l=>by show(a.ren σ).ren ρ::AV.jM ρ (AV.jM σ l)=_;rw[AV.OI h,AV.y9 h]
end
def AV.un(θ:Pm)(a:AV):AV:=a.ren θ.inv
def ig(θ:Pm)(l:List AV):List AV:=AV.jM θ.inv l
@[simp] theorem AV.ku(θ:Pm)(a:AV):(a.un θ).ren θ.to=a:=AV.OI θ.ri a
@[simp] theorem ad2(θ:Pm)(l:List AV):AV.jM θ.to (ig θ l)=l:=AV.y9 θ.ri l
theorem zW(ρ:Nat->Nat):∀l:List AV,AV.jM ρ l=l.map (AV.ren ρ)
 |[]=>rfl
 |a::l=>by show a.ren ρ::AV.jM ρ l=_;rw[zW ρ l];rfl
theorem vV{θ:Pm}{l:List AV}{i:Nat}{a:AV}(h:l[i]? =some a):(ig θ l)[i]? =some (a.un θ):=by
 unfold ig;rw[zW,fP,h];rfl
theorem oZ(θ:Pm)(l:List AV):(ig θ l).length=l.length:=yt _ _
mutual
theorem AV.wu:∀a:AV,a.low OLD=true
 | .ptr i _| .sl i _ _ _| .map i| .yield i=>by
   show(Nat.blt i OLD||Nat.ble OLD i)=true;rcases aT i OLD with h|h
   .rw[show Nat.blt i OLD=true from bF h];rfl
   .rw[show Nat.ble OLD i=true from bF h,jX]
 | .fn _ a b=>by show(AV.fG OLD a&&AV.fG OLD b)=true;rw[AV.Bv a,AV.Bv b];rfl
 | .iface _ v=>AV.wu v
 | .agg l| .gI l=>AV.Bv l
 | .any| .one| .bool _| .int _ _| .str _| .pO| .aQ| .emp| .aO _ _ _| .pF| .um| .uj=>rfl
theorem AV.Bv:∀l:List AV,AV.fG OLD l=true
 |[]=>rfl
 |a::l=>by show(a.low OLD&&AV.fG OLD l)=true;rw[AV.wu a,AV.Bv l];rfl
end
theorem yY:∀t:Tr AV,yZ OLD t=true
 | .e=>rfl
 | .n l v r=>by unfold yZ;rw[yY l,yY r];cases v<;>simp[AV.wu]
theorem Sz(i:Nat):acI OLD i=true:=by
 have:=AV.wu (.ptr i 0);exact this
theorem AO.wu(o:AO):o.low OLD=true:=by
 cases o with
 |cells vs=>exact AV.Bv vs
 |map es=>show(es.all λe=>e.key.low OLD&&e.val.low OLD)=true;simp[AV.wu]
 |KE m=>cases m with
  |none=>rfl
  |some m=>exact Sz m
 |loop st p fn nt tm ps a b d=>show(yZ OLD tm&&acI OLD d)=true;rw[yY,Sz];rfl
 |_=>rfl
theorem AF.plain.low{f:AF}(h:f.plain):f.low OLD:=⟨yY _,h.todo,h.ds,h.round⟩
def KU(g:Nat->Nat):Tr AO->List (Nat×AO)
 | .e=>[]
 | .n l v r=>(match v with |some o=>[(g 0,o)]|none=>[])++(KU (λi=>g (2*i+1)) l++KU (λi=>g (2*i+2)) r)
def ents(t:Tr AO):List (Nat×AO):=KU (λi=>i) t
theorem Ik:∀{t:Tr AO} {g:Nat->Nat} {i:Nat} {o:AO},t.get i=some o->(g i,o)∈KU g t
 | .e,g,i,o,h=>by rw[Tr.fO]at h;cases h
 | .n l v r,g,i,o,h=>by
   unfold KU;rw[Tr.jS]at h;by_cases h0:i=0
   .rw[aC h0]at h
    subst h0;subst h;exact iq _ (bY.2 rfl)
   .rw[ah h0]at h
    by_cases h1:i % 2=1
    .rw[aC h1]at h
     have:=Ik (g:=λi=>g (2*i+1)) h;refine iH _ (iq _ ?_);rw[show 2*(i / 2)+1=i by omega]at this;exact this
    .rw[ah h1]at h
     have:=Ik (g:=λi=>g (2*i+2)) h;refine iH _ (iH _ ?_);rw[show 2*(i / 2 - 1)+2=i by omega]at this;exact this
theorem BM{t:Tr AO}{i:Nat}{o:AO}(h:t.get i=some o):(i,o)∈ents t:=Ik (g:=λi=>i) h
theorem Ij:∀{t:Tr AO} {g:Nat->Nat} {p:Nat×AO},p∈KU g t->∃i,p.1=g i∧t.get i=some p.2
 | .e,g,p,h=>by cases h
 | .n l v r,g,p,h=>by
   unfold KU at h;rcases bQ.1 h with h|h
   .cases v with
    |none=>cases h
    |some o=>
     rcases bY.1 h with rfl;exact⟨0,rfl,by rw[Tr.jS,aC rfl]⟩
   .rcases bQ.1 h with h|h
    .obtain⟨i,h1,a⟩:=Ij h
     exact⟨2*i+1,h1,by rw[Tr.jS,ah (by omega),aC (by omega),show(2*i+1) / 2=i by omega];exact a⟩
    .obtain⟨i,h1,a⟩:=Ij h
     exact⟨2*i+2,h1,by rw[Tr.jS,ah (by omega),ah (by omega),show(2*i+2) / 2 - 1=i by omega];exact a⟩
theorem aaS{t:Tr AO}{p:Nat×AO}(h:p∈ents t):t.get p.1=some p.2:=by
 obtain⟨i,h1,a⟩:=Ij h;rw[h1];exact a
abbrev Mm:=Nat->AO
def Ba(K:Ctx)(ι:Nm)(m:Mm)(w:World):Prop:=vJ K ι (λi o=>m i=o) w
def dn(m:Mm):List (Nat×AO)->Mm
 |[]=>m
 |(i,o)::l=>λk=>if k=i then o else dn m l k
theorem Wi{m:Mm}:∀{l:List (Nat×AO)} {k:Nat},k∈l.map Prod.fst->(k,dn m l k)∈l
 |(i,o)::l,k,h=>by
  unfold dn;by_cases a:k=i
  .rw[aC a,a];exact dA
  .rw[ah a]
   exact aY _ (Wi (by
    rcases ay.1 (show k∈i::l.map Prod.fst from h)with h|h
    .exact aX h a
    .exact h))
theorem yX{m:Mm}:∀{l:List (Nat×AO)} {k:Nat},¬k∈l.map Prod.fst->dn m l k=m k
 |[],_,_=>rfl
 |(i,o)::l,k,h=>by
  have h:¬k∈i::l.map Prod.fst:=h;rw[ay,not_or]at h;unfold dn;rw[ah h.1,yX h.2]
abbrev qC:=Old->AV->Mm->Nat->Prop
def AtM(P:Program)(E:Env)(old:Old)(K:Ctx)(ι:Nm)(c:Frame)(b:List Frame)(R:qC):Nat->Goroutine->World->Prop:=λd g w=>
 ∃e a ι' v u m' N',g=G (back .normal c u) b∧Fz K e∧Of e P (E.wo a)∧Old.le old a∧Ext ι ι'∧Ba e ι' m' w∧RV ι' v u∧Free ι' N' OLD∧R a v m' N'∧d=0
def dL(P:Program)(E:Env)(old:Old)(f:AF)(m:Mm)(N:Nat)(R:qC):Prop:=
 ∀(K:Ctx) (ι:Nm) (w:World) (fr c:Frame) (a:List Frame),Of K P (E.wo old)->Ba K ι m w->RF ι f fr->Free ι N OLD->fr.kind= .normal->Walk P true K (AtM P E old K ι c a R) 0 (G fr (c::a)) w
def CallM(P:Program)(E:Env)(old:Old)(g:FuncId)(args:List AV)(m:Mm)(N:Nat)(R:qC):Prop:=
 ∀(K:Ctx) (ι:Nm) (w:World) (vs:Array Value) (c:Frame) (a:List Frame),Of K P (E.wo old)->Ba K ι m w->dS ι args vs.toList->Free ι N OLD->Walk P true K (AtM P E old K ι c a R) 0 (G (Frame.enter P g vs .normal) (c::a)) w
section
variable{P:Program}{E:Env}{Z:Old}{f f':AF}{m Y:Mm}{N N':Nat}{R X:qC}
theorem AtM.up{K o:Ctx}{ι ι':Nm}{j:Old}{c:Frame}{k:List Frame}(z:Fz K o)(l:Old.le Z j)(r:Ext ι ι'){d:Nat}{g:Goroutine}{w:World}(H:AtM P E j o ι' c k R d g w):AtM P E Z K ι c k R d g w:=by
 obtain⟨s,t,n,v,u,Y,N',a,b,p,e,x,q⟩:=H;exact⟨s,t,n,v,u,Y,N',a,z.trans b,p,Old.le_trans l e,λi p h=>x i p (r i p h),q⟩
theorem dL.mono(A:dL P E Z f m N R)(i:∀e v Y N',Old.le Z e->R e v Y N'->X e v Y N'):dL P E Z f m N X:=λK ι w fr c h j S k n o=>
 (A K ι w fr c h j S k n o).mono λd g w ⟨t,y,ι',v,u,Y,N',a,b,p,l,x,s,rv,fr,q,r⟩=>⟨t,y,ι',v,u,Y,N',a,b,p,l,x,s,rv,fr,i _ _ _ _ l q,r⟩
theorem CallM.of{args:List AV}(FF:eU P (E.wo Z))(h:(jJ (E.wo Z) g args false).isSome=true)(A:dL P E Z (ent (E.wo Z) g args) m N R):CallM P E Z g args m N R:=by
 intro K ι w vs c a i S j d;cases e:jJ (E.wo Z) g args false with
 |none=>rw[e]at h;cases h
 |some f0=>
  have b:ent (E.wo Z) g args=f0:=by unfold Ev.ent;rw[e]
  rw[b]at A;exact A K ι w (Frame.enter P g vs .normal) c a i S (lV FF e j rfl) d rfl
theorem CallM.ofX{args:List AV}{Q:Old->AV->Prop}(C:jV P E Z g args Q)(k:AV.fG 0 args=true)(x:∀a v,Old.le Z a->Q a v->R a v m N):CallM P E Z g args m N R:=by
 intro K ι w vs c n s S y A;have r:=S.kV (s.pk rfl);have B:Sat K dR eH w:=⟨λi o e=>(by rw[show eH.tr.get i=none from Tr.fO i]at e;cases e),λi j o T p q e=>(by rw[show eH.tr.get i=none from Tr.fO i]at e;cases e),S.lo,S.bs,S.old,S.os,S.tape,S.output,λ_ _ _ h=>h⟩;refine(C K w vs c n s B (dS.vC r k y)).mono ?_
 rintro U g' D ⟨F,a,v,u,rfl,z,G,l,q,rv,d,rfl,H,b⟩
 refine⟨F,a,ι,v,u,m,N,rfl,z,G,l,λ_ _ h=>h,?_,rv.mono r,A,x _ _ l q,rfl⟩;refine⟨λi o e I=>?_,S.inj,d.lo,d.bs,d.old,d.os,d.tape,d.output,λ_=>r⟩;obtain⟨p,ob,e1,e2,J,t,L⟩:=S.objs i o e I;obtain⟨M,m2,O⟩:=b p.1 (lt_of_heap t) e2 J;exact⟨p,ob,e1,m2,M,O.trans t,by rw[z.P];exact L⟩
theorem fU.ofM{h:AH}{Q:Old->AV->Prop}(A:dL P E Z f m h.nx (λa v _ _=>Q a v∧v.low 0=true))(r:∀i,(m i).live->h.tr.get i=some (m i))(k:h.df=0):fU P E Z f h Q:=λK ι w fr c b t S y B C=>by
 rw[k];refine(A K ι w fr c b t (S.toM λi o e l=>by subst e;exact r i l) y B C).mono ?_
 rintro d g w' ⟨D,n,ι',v,u,Y,N',rfl,z,p,l,x,s,rv,fr,⟨q,F⟩,rfl⟩
 refine⟨D,n,v,u,rfl,z,p,l,q,RV.vC (s.kV (p.pk rfl)) F rv,⟨λi o e=>(by rw[show eH.tr.get i=none from Tr.fO i]at e;cases e),λi j o n p q e=>(by rw[show eH.tr.get i=none from Tr.fO i]at e;cases e),s.lo,s.bs,s.old,s.os,s.tape,s.output,λ_ _ _ h=>h⟩,rfl⟩
end
end
section
open Go.Conc (G)
variable{K:Ctx}{el:TypeId}{g:FuncId}{w:World}{ι:Nm}
structure Lift(θ:Pm)(m:Mm)(l:List (Nat×AO))(N N':Nat)(h0 h0':AH):Prop where
 before:∀e∈ents h0.tr,m (θ.to e.1)=e.2.ren θ.to
 keys:∀e∈ents h0.tr,θ.to e.1∈l.map Prod.fst
 behind:∀e∈l,e.2.live->∃i o,h0'.tr.get i=some o∧θ.to i=e.1∧o.ren θ.to=e.2
 new:∀i,h0.nx<=i->i<h0'.nx->N<=θ.to i∧θ.to i<N'
 le:N<=N'
 nxO:Nat.ble h0'.nx OLD=true
 top:N'<=OLD
 df:h0.df=0
 df':h0'.df=0
theorem jC(θ:Pm)(l:List AV)(t:TypeId)(g z:Bool):(AO.cells (ig θ l) t g z).ren θ.to= .cells l t g z:=by show AO.cells (AV.jM θ.to (ig θ l)) t g z=_;rw[ad2]
theorem QA(θ:Pm)(l:List AV)(n:Nat):(ig θ l).take n=ig θ (l.take n):=by unfold ig;rw[zW,zW,List.map_take]
theorem nD(θ:Pm)(l r:List AV):ig θ (l++r)=ig θ l++ig θ r:=by unfold ig;rw[zW,zW,zW,oO]
section
variable{P:Program}{E:Env}{Z:Old}{f f':AF}{m U:Mm}{N N':Nat}{R R':qC}{θ:Pm}{l:List (Nat×AO)}{V Y:AH}
theorem zo(L:Lift θ m l N N' V Y)(hP:Of K P E)(S:Ba K ι m w)(hf:Free ι N OLD):
 ∃r,Sub r K∧Of r P E∧Sat r (λi=>ι (θ.to i)) V w∧Free (λi=>ι (θ.to i)) V.nx Y.nx∧
  ∀a w',Kept K r w w'->Grow (λi=>ι (θ.to i)) a V.nx Y.nx->Sat r a Y w'->Ba K (λk=>a (θ.inv k)) (dn m l) w'∧Ext ι (λk=>a (θ.inv k))∧Free (λk=>a (θ.inv k)) N' OLD:=by
 let X:Nat->Prop:=λk=>¬∃e∈ents V.tr,e.2.live∧θ.to e.1=k;let r:=Ctx.less K ι (λi o=>m i=o) X w S.lo S.lt;have s:Free (λi=>ι (θ.to i)) V.nx Y.nx:=λi h1 I=>hf _ (L.new i h1 I).1 (θ.lt (by have:=aJ L.nxO;omega));have F:∀i o,V.tr.get i=some o->m (θ.to i)=o.ren θ.to:=λi o e=>L.before _ (BM e);have S0:Sat r (λi=>ι (θ.to i)) V w:=by
  refine⟨λi o e c=>?_,λi j o W p q e1 e2 l1 l2 hp x d=>?_,aj _,S.bs,S.old,S.os,S.tape,S.output,λg i p hi=>?_⟩
  .have t:=F i o e
   obtain⟨p,ob,e1,e2,y,z,A⟩:=S.objs (θ.to i) (o.ren θ.to) t (AO.fF.2 c);refine⟨p,ob,e1,e2,⟨y,λ⟨j,W,q,hx,hm,B,x,hqp⟩=>?_⟩,z,RO.iY (n:=OLD) (λi p _ hp=>hp) (AO.wu o) A⟩;have:θ.to i=j:=S.inj (θ.to i) j _ W p q t hm (AO.fF.2 c) B e1 x hqp.symm;exact hx ⟨(i,o),BM e,c,this⟩
  .exact θ.inj (S.inj _ _ _ _ p q (F i o e1) (F j W e2) (AO.fF.2 l1) (AO.fF.2 l2) hp x d)
  .have hi':OLD<=i:=OX hi
   show ι (θ.to i)=some p;rw[θ.old i hi'];exact S.kV g i p hi
 refine⟨r,uQ,⟨hP.P,hP.mem,hP.pk⟩,S0,s,λa w' u hg G=>?_⟩;have hE0:=hg.ext s;have D:Ext ι (λk=>a (θ.inv k)):=λk p g=>hE0 (θ.inv k) p (by show ι (θ.to (θ.inv k))=some p;rw[θ.ri];exact g);have hU:UC θ.to a (λk=>a (θ.inv k)):=λi p hi=>by show a (θ.inv (θ.to i))=some p;rw[θ.li];exact hi
 have Z:∀k,X k->(m k).live->∃p ob,ι k=some p∧¬K.fz p.1∧K.own p.1∧w'.heap[p.1]? =some ob∧RO K.P ι p.2 (m k) ob∧¬r.own p.1:=λk hx c=>by
  obtain⟨p,ob,e1,e2,y,z,A⟩:=S.objs k (m k) rfl c;have J:¬r.own p.1:=λh=>h.2 ⟨k,m k,p,hx,rfl,c,e1,rfl⟩;exact⟨p,ob,e1,e2,y,(u.same p.1 (lt_of_heap z) e2 y J).trans z,A,J⟩
 have v:∀k,¬k∈l.map Prod.fst->X k:=λk g ⟨e,h1,_,M⟩=>g (M▸L.keys e h1);have b:∀k,k∈l.map Prod.fst->(dn m l k).live->∃p ob,a (θ.inv k)=some p∧¬K.fz p.1∧r.own p.1∧w'.heap[p.1]? =some ob∧RO K.P (λk=>a (θ.inv k)) p.2 (dn m l k) ob∧∃o,Y.tr.get (θ.inv k)=some o∧o.live:=λk g c=>by
  obtain⟨i,o,h4,I,M⟩:=L.behind _ (Wi g) c;simp only at I M;have B:o.live:=AO.fF.1 (by rw[M];exact c);obtain⟨p,ob,e1,e2,y,z,A⟩:=G.objs i o h4 B;have h5:θ.inv k=i:=by rw[← I,θ.li]
  refine⟨p,ob,by rw[h5];exact e1,e2,y,z,by rw[← M];exact RO.ren hU A,o,by rw[h5];exact h4,B⟩
 refine⟨⟨λk o e c=>?_,λi j o W p q e1 e2 l1 l2 hp x d=>?_,aS S.lo u.size,G.bs,G.old,G.os,G.tape,G.output,λg i p hi=>D i p (S.kV g i p hi)⟩,D,λk h1 I=>?_⟩
 .subst e
  by_cases g:k∈l.map Prod.fst
  .obtain⟨p,ob,e1,e2,y,z,A,_⟩:=b k g c
   exact⟨p,ob,e1,e2,y.1,z,A⟩
  .rw[yX g]at c ⊢
   obtain⟨p,ob,e1,e2,y,z,A,_⟩:=Z k (v k g) c;exact⟨p,ob,D _ _ e1,e2,y,z,A.mono D⟩
 .subst e1;subst e2
  have hp:a (θ.inv i)=some p:=hp;have x:a (θ.inv j)=some q:=x;by_cases hi:i∈l.map Prod.fst<;>by_cases hj:j∈l.map Prod.fst
  .obtain⟨O,_,C,_,_,_,_,o1,a2,Q⟩:=b i hi l1
   obtain⟨q',_,H,_,_,_,_,o2,b2,T⟩:=b j hj l2;have:=G.inj _ _ o1 o2 p q a2 b2 Q T hp x d;rw[← θ.ri i,this,θ.ri]
  .obtain⟨O,_,C,_,Q,_⟩:=b i hi l1
   rw[yX hj]at l2;obtain⟨q',_,H,_,_,_,_,T⟩:=Z j (v j hj) l2;rw[hp]at C;cases C;have t:a (θ.inv j)=some q':=D _ _ H;rw[x]at t;cases t;exact aX (d▸Q) T
  .obtain⟨q',_,C,_,Q,_⟩:=b j hj l2
   rw[yX hi]at l1;obtain⟨O,_,H,_,_,_,_,T⟩:=Z i (v i hi) l1;rw[x]at C;cases C;have t:a (θ.inv i)=some O:=D _ _ H;rw[hp]at t;cases t;exact aX (d▸Q) T
  .rw[yX hi]at l1
   rw[yX hj]at l2;obtain⟨O,_,C,_⟩:=S.objs i _ rfl l1;obtain⟨q',_,H,_⟩:=S.objs j _ rfl l2;have ha:a (θ.inv i)=some O:=D _ _ C;have t:a (θ.inv j)=some q':=D _ _ H;rw[hp]at ha;cases ha;rw[x]at t;cases t;exact S.inj i j _ _ _ _ rfl rfl l1 l2 C H d
 .show a (θ.inv k)=none
  have hN:=L.le;by_cases J:V.nx<=θ.inv k∧θ.inv k<Y.nx
  .have:=(L.new _ J.1 J.2).2
   rw[θ.ri]at this;omega
  .rw[hg.same _ (by omega)]
   show ι (θ.to (θ.inv k))=none;rw[θ.ri];exact hf k (by omega) I
theorem dL.lift{f0 f0':AF}(L:Lift θ m l N N' V Y)(D:DoesS P (E.wo Z) f0 V f0' Y)(A:f0.plain)(C:f0'.plain)(e:f=f0.ren θ.to)(F:f0'.ren θ.to=f')(B:dL P E Z f' (dn m l) N' R):dL P E Z f m N R:=λK ι w fr c j y S z G I=>by
 subst e;subst F;obtain⟨u,t,v,J,o,after⟩:=zo L y S G;have M:RF (λi=>ι (θ.to i)) f0 fr:=z.JU (n:=OLD) (λi p _ hp=>hp) A.low;have W:=D.2.2 u _ w fr (c::j) v J M o;rw[L.df]at W;refine(W.frame t (Kept.refl _ _ _) (Stop:=λd g w'=>Kept K u w w'∧AtF u (λi=>ι (θ.to i)) V.nx (c::j) f0' Y d g w') (λd g w' a b=>⟨a,b⟩)).bind ?_
 rintro d g w' ⟨q,h,r,rfl,O,Q,T,rfl⟩
 obtain⟨X,hE,hF⟩:=after h w' q O Q;rw[L.df'];have hU:UC θ.to h (λk=>h (θ.inv k)):=λi p hi=>by show h (θ.inv (θ.to i))=some p;rw[θ.li];exact hi
 have R1:RF (λk=>h (θ.inv k)) (f0'.ren θ.to) r:=T.acf hU C;have s:r.kind= .normal:=(z.ou R1 (show(f0'.ren θ.to).x=(f0.ren θ.to).x from D.2.1)).trans I;exact(B K _ w' r c j y X R1 hF s).mono λ_ _ _ H=>AtM.up (Fz.refl K) (Old.le_refl _) hE H
theorem dL.uy{f0:AF}{v0:AV}(L:Lift θ m l N N' V Y)(D:Does P (E.wo Z) f0 V v0 Y)(v:f0.plain)(e:f=f0.ren θ.to)(B:R Z (v0.ren θ.to) (dn m l) N'):dL P E Z f m N R:=λK ι w fr c j r S x y s=>by
 subst e;obtain⟨z,o,q,A,b,after⟩:=zo L r S y;have C:RF (λi=>ι (θ.to i)) f0 fr:=x.JU (n:=OLD) (λi p _ hp=>hp) v.low;have W:=D.2 z _ w fr c j q A C (λt=>by rw[s]at t;cases t) b;rw[L.df]at W;refine W.frame o (Kept.refl _ _ _) ?_
 rintro d g w' h ⟨a,u,rfl,F,G,H,rfl⟩
 obtain⟨I,J,M⟩:=after a w' h F G;have O:UC θ.to a (λk=>a (θ.inv k)):=λi p hi=>by show a (θ.inv (θ.to i))=some p;rw[θ.li];exact hi
 rw[s];exact⟨K,Z,_,v0.ren θ.to,u,_,N',rfl,Fz.refl K,r,Old.le_refl _,J,I,H.ren O,M,B,L.df'⟩
theorem dL.BA{f0:AF}{la:List UK}{zD:List AV}{h1:AH}{R1:qC}(F:Fits P (E.wo Z))(FF:eU P (E.wo Z))(L:Lift θ m l N N' V h1)(A:AtCall P (E.wo Z) la f0 V g zD h1)(p0:f0.plain)(T:∀v,(lu P (E.wo Z) la f0 V v).plain)(e:f=f0.ren θ.to)
 (C:CallM P E Z g (AV.jM θ.to zD) (dn m l) N' R1)(B:∀r v U I,Old.le Z r->R1 r v U I->dL P E r ((lu P (E.wo Z) la f0 V (v.un θ)).ren θ.to) U I R):dL P E Z f m N R:=λK ι w fr cc j hP S RR hf hk=>by
 subst e;obtain⟨obs,e,H⟩:=A;unfold lu at B T;cases hp:yu P (E.wo Z) la f0 V with
 |none=>rw[hp]at e;cases e
 |some p=>
  obtain⟨f1,Y,o⟩:=p;rw[hp]at e B T;simp only at e B T;cases hs:iZ (E.wo Z) f1 Y with
  |none=>rw[hs]at e;cases e
  |some a=>
   rw[hs]at e B T;cases a with
   |call f' d g' args' h1'=>
    simp only at e B T;cases e;have D:=path_ok F FF la f0 V hp H;have hx:f'.x=f1.x:=yI hs;obtain⟨X,hsub,hP0,S0,y,after⟩:=zo L hP S hf;have R0:RF (λi=>ι (θ.to i)) f0 fr:=RR.JU (n:=OLD) (λi p _ hp=>hp) p0.low;have hnx1:Y.nx<=h1.nx:=qo hs;have W:=D.2.2 X _ w fr (cc::j) hP0 S0 R0 (y.sub (aj _) hnx1);rw[L.df]at W;have W2:Walk P true X (λd2 g2 w'=>∃ι' c vs,g2=G (Frame.enter P g vs .normal) (c::cc::j)∧Grow (λi=>ι (θ.to i)) ι' V.nx h1.nx∧Sat X ι' h1 w'∧dS ι' zD vs.toList∧(∀q v u,Ext ι' q->RV q v u->RF q (yJ (f',d) v) (c.finish u))∧d2=h1.df) 0 (G fr (cc::j)) w:=by
     refine W.bind ?_
     rintro d2 g2 w' ⟨ι1,fr1,rfl,hg1,hS1,hR1,rfl⟩
     have hf1:Free ι1 Y.nx h1.nx:=λi a b=>by rw[hg1.same i (.inr a)];exact y i (by have:=D.1;omega) b
     refine Walk.of rfl λw₁ J=>?_;have M:yg P true X ι1 Y w₁ fr1 (cc::j) _:=step_ok hP0 F FF (hS1.rely J) hR1 hs;obtain⟨ι',c,vs,w'',es,k1,k2,k3,k4,⟨k5,k5'⟩,k6,k7⟩:=M hf1;refine⟨_,w'',es,k1,k6,.stop λw2 hr2=>⟨ι',c,vs,rfl,hg1.trans k2,k3.rely hr2,k4,k5,k7⟩⟩
    refine(W2.frame hsub (Kept.refl _ _ _) (Stop:=λd2 g2 w'=>Kept K X w w'∧∃ι' c vs,g2=G (Frame.enter P g vs .normal) (c::cc::j)∧Grow (λi=>ι (θ.to i)) ι' V.nx h1.nx∧Sat X ι' h1 w'∧dS ι' zD vs.toList∧(∀q v u,Ext ι' q->RV q v u->RF q (yJ (f',d) v) (c.finish u))∧d2=h1.df) (λ_ _ _ a b=>⟨a,b⟩)).bind ?_
    rintro d2 g2 w' ⟨O,t,c,vs,rfl,hg,hS,hv,hres,rfl⟩
    obtain⟨S1,hE,hF⟩:=after t w' O hg hS;rw[L.df'];have hU:UC θ.to t (λk=>t (θ.inv k)):=λi p hi=>by show t (θ.inv (θ.to i))=some p;rw[θ.li];exact hi
    refine(C K _ w' vs c (cc::j) hP S1 (hv.ren hU) hF).bind ?_
    rintro d3 g3 w3 ⟨K',r,s,v,u,U,I,rfl,z,p',lo,hE2,S2,rv,hF2,r1,rfl⟩
    have hv0:RV (λi=>s (θ.to i)) (v.un θ) u:=RV.iY (n:=OLD) (ι:=s) (ρ:=θ.to) (λi p _ hp=>hp) (AV.wu _) (by rw[AV.ku];exact rv);have hR3:=hres (λi=>s (θ.to i)) (v.un θ) u (λi p hi=>hE2 (θ.to i) p (hU i p hi)) hv0;have hU2:UC θ.to (λi=>s (θ.to i)) s:=λi p hi=>hi;have hR4:RF s ((yJ (f',d) (v.un θ)).ren θ.to) (c.finish u):=hR3.acf hU2 (T _);have hx2:((yJ (f',d) (v.un θ)).ren θ.to).x=(f0.ren θ.to).x:=by
     show(yJ (f',d) (v.un θ)).x=f0.x;have:(yJ (f',d) (v.un θ)).x=f'.x:=by cases f';rfl
     rw[this,hx,D.2.1]
    have Q:(c.finish u).kind= .normal:=(RR.ou hR4 hx2).trans hk;exact((B r v U I lo r1 K' s w3 (c.finish u) cc j p' S2 hR4 hF2 Q).fz z).mono λ_ _ _ H=>AtM.up z lo (λi p h=>hE2 i p (hE i p h)) H
   |_=>cases e
theorem Ba.frz{id:Nat}{vs:List AV}{g z:Bool}(B:Of K P (E.wo Z))(S:Ba K ι m w)(G:m id= .cells vs el g z)(u:∀a∈vs,AV.low 0 a=true):
 ∃v h p,ι id=some p∧Fz K v∧Of v P (E.wo h)∧Old.le Z h∧(∀o a,vs[o]? =some a->h p.1 o=some a)∧Ba v ι (dn m [(id,.dead)]) w:=by
 have r:K.peek:=B.pk rfl;have H:=S.kV r;obtain⟨p,ob,e1,e2,Q,I,T⟩:=S.objs id _ G trivial;obtain⟨c,lo,hi,rfl,⟨l1,l2,W,X⟩,_⟩:=T;have C:p.1<w.heap.size:=lt_of_heap I;let h:Old:=λb o=>if b=p.1 then vs[o]? else Z b o;let v:Ctx:={ P:=K.P,W0:=w,fz:=λb=>K.fz b∨b=p.1,lo:=w.heap.size,own:=λb=>K.own b∧b≠p.1,nZ:=λb d=>⟨K.nZ b (aS S.lo d),by omega⟩,peek:=K.peek };have y:Old.le Z h:=by
  intro b o a e;show(if b=p.1 then vs[o]? else Z b o)=some a;by_cases d:b=p.1
  .exfalso
   have:=(B.mem b o a e).2.1;rw[d]at this;exact e2 this
  .rw[ah d];exact e
 refine⟨v,h,p,e1,⟨rfl,λb d=> .inl d,λb d=>d.1,λb d=>d.imp (λd=>d) (λd=>by rw[d];exact Q),λb d=>S.old b d,S.os,S.tape,S.output,λhp=>hp⟩,⟨B.P,λb o a e=>?_,λ_=>r⟩,y,λo a e=>by show(if p.1=p.1 then vs[o]? else Z p.1 o)=some a;rw[aC rfl];exact e,?_⟩
 .have e:(if b=p.1 then vs[o]? else Z b o)=some a:=e
  by_cases d:b=p.1
  .rw[aC d]at e
   obtain⟨x,k,s⟩:=X.get e;refine⟨r,.inr d,x,?_,RV.vC H (u a (bP e)) s⟩;show w.cell? ⟨b,o,none⟩=some x;rw[d,cell_of I,← bI,W,aW]
   .exact k
   .rw[aA]at k;exact k.1
  .rw[ah d]at e
   obtain⟨_,J,x,k,s⟩:=B.mem b o a e;refine⟨r,.inl J,x,?_,s⟩;show w.cell? ⟨b,o,none⟩=some x;unfold World.cell? at k ⊢;rw[S.old b J];exact k
 .have n:∀i o,dn m [(id,.dead)] i=o->o.live->i≠id∧m i=o:=λi o e t=>by
   subst e;by_cases hi:i=id
   .rw[show dn m [(id,.dead)] i= .dead from aC hi]at t;exact t.elim
   .exact⟨hi,(show dn m [(id,.dead)] i=m i from ah hi).symm⟩
  refine⟨λi o e t=>?_,λi j o L p q e1 e2 l1 l2 hp hq D=>S.inj i j o L p q (n i o e1 l1).2 (n j L e2 l2).2 l1 l2 hp hq D,aj _,λb d=>d.elim (S.bs b) (λd=>by rw[d];exact C),λ_ _=>rfl,rfl,rfl,rfl,λ_=>H⟩;obtain⟨n1,M⟩:=n i o e t;obtain⟨q,ob,O,f2,f3,f4,f5⟩:=S.objs i o M t;have A:q.1≠p.1:=λF=>n1 (S.inj i id _ _ q p M G t trivial O e1 F);exact⟨q,ob,O,λF=>F.elim f2 A,⟨f3,A⟩,f4,f5⟩
theorem dL.Tn{id off n i j:Nat}{cap:Option Nat}{vs ws:List AV}{el el2:TypeId}{g z g2 z2:Bool}(ho:m id= .cells vs el g z)(G:∀a∈vs,AV.low 0 a=true)(hi:m i= .cells ws el2 g2 z2)(Q:i≠id)(hj:ws[j]? =some (.sl id off n cap))
 (B:∀(d:Old) (b c:Nat),Old.le Z d->n<=c->(∀o a,vs[o]? =some a->d b o=some a)->dL P E d f (dn m [(i,.cells (ws.set j (.aO (some (b,off)) n c)) el2 g2 z2),(id,.dead)]) N R):dL P E Z f m N R:=λK ι w fr cc I hP S RR hf T=>by
 obtain⟨K',d,p,e1,z1,W,J,X,t⟩:=Ba.frz hP S ho G;have D:dn m [(id,.dead)] i= .cells ws el2 g2 z2:=by rw[show dn m [(id,.dead)] i=m i from ah Q];exact hi
 obtain⟨q,ob,f1,f2,f3,f4,f5⟩:=t.objs i _ D trivial;have f6:=f5;obtain⟨c0,lo,hi0,hob,⟨l1,l2,hc,hv⟩,_⟩:=f6;obtain⟨u,hu1,hu2⟩:=hv.get hj;obtain⟨p',h1,r,e,A,_⟩:=kE hu2;rw[e1]at h1;cases h1;have F:RV ι (.aO (some (p.1,off)) n r) u:=by
  rw[e];unfold RV;exact⟨none,rfl,A,λC=>(by cases C),λ_=>rfl⟩
 let m2:=dn m [(i,.cells (ws.set j (.aO (some (p.1,off)) n r)) el2 g2 z2),(id,.dead)];have m2i:m2 i= .cells (ws.set j (.aO (some (p.1,off)) n r)) el2 g2 z2:=aC rfl;have L:∀k,k≠i->m2 k=dn m [(id,.dead)] k:=λk hk=>ah hk;have S2:Ba K' ι m2 w:=by
  refine⟨λk o ek M=>?_,λa b o o' p1 p2 ea eb la lb hp1 hp2 hpq=>?_,t.lo,t.bs,t.old,t.os,t.tape,t.output,t.kV⟩
  .subst ek
   by_cases s:k=i
   .subst s
    rw[m2i];refine⟨q,ob,f1,f2,f3,f4,?_⟩;rw[hob]at f5 ⊢;obtain⟨c',lo',D,O,⟨m1,m2,mc,mv⟩,b1,b2,b3⟩:=f5;cases O;refine⟨c0,lo,hi0,rfl,⟨l1,l2,hc,?_⟩,λhg=>by rw[iT];exact b1 hg,b2,b3⟩;refine dS.Ht (by rw[iT];exact hv.length) λx a v C y=>?_;rw[List.getElem?_set]at C;split at C
    .rename_i hjx
     subst hjx;split at C
     .cases C
      rw[hu1]at y;cases y;exact F
     .cases C
    .obtain⟨v2,e2,r2⟩:=hv.get C
     rw[e2]at y;cases y;exact r2
   .rw[L k s]at M ⊢
    exact t.objs k _ rfl M
  .have get:∀k,(m2 k).live->(dn m [(id,.dead)] k).live:=λk M=>by
    by_cases s:k=i
    .subst s;rw[D];trivial
    .rw[L k s]at M;exact M
   subst ea;subst eb;exact t.inj a b _ _ p1 p2 rfl rfl (get a la) (get b lb) hp1 hp2 hpq
 exact((B d p.1 r J A X K' ι w fr cc I W S2 RR hf T).fz z1).mono λ_ _ _ H=>AtM.up z1 J (λ_ _ h=>h) H
theorem dL.Vd{id:Nat}{vs c:List AV}{el:TypeId}{g z:Bool}(hi:m id= .cells vs el g z)(s:c.length=vs.length)(t:∀ι r,dS ι vs r->dS ι c r)(B:dL P E Z f (dn m [(id,.cells c el g z)]) N R):dL P E Z f m N R:=λK ι w fr cc h u S v x i=>by
 refine B K ι w fr cc h u ?_ v x i;refine⟨λk o y e=>?_,λa b o O A C D eb F G j n p=>?_,S.lo,S.bs,S.old,S.os,S.tape,S.output,S.kV⟩
 .subst y
  by_cases d:k=id
  .rw[show dn m [(id,.cells c el g z)] k= .cells c el g z from aC d]
   subst d;obtain⟨q,ob,H,I,J,L,M⟩:=S.objs k _ hi trivial;exact⟨q,ob,H,I,J,L,M.Vd s (t ι)⟩
  .rw[show dn m [(id,.cells c el g z)] k=m k from ah d]at e ⊢
   exact S.objs k _ rfl e
 .have get:∀k,(dn m [(id,.cells c el g z)] k).live->(m k).live:=λk e=>by
   by_cases d:k=id
   .subst d;rw[hi];trivial
   .rw[show dn m [(id,.cells c el g z)] k=m k from ah d]at e;exact e
  subst D;subst eb;exact S.inj a b _ _ A C rfl rfl (get a F) (get b G) j n p
end
end
section
variable{Y:Type}{Z:Y->Y->Int}
structure TO(Z:Y->Y->Int):Prop where
 refl:∀a,Z a a=0
 flip:∀{a b},Z a b<0->0<Z b a
 Tz:∀{a b},0<Z a b->Z b a<0
 trans:∀{a b c},Z a b<=0->Z b c<=0->Z a c<=0
variable(T:TO Z)
theorem TO.zero(T:TO Z){a b:Y}(h:Z a b=0):Z b a=0:=by
 rcases sV (Z b a) 0 with g|g|g
 .have:=T.flip g;omega
 .exact g
 .have:=T.Tz g;omega
theorem TO.KH(T:TO Z){a b:Y}(h:Z a b<0):¬Z b a<=0:=by have:=T.flip h;omega
theorem TO.Sl(T:TO Z){a b c:Y}(h:Z a b<0)(g:Z b c<=0):Z a c<0:=by
 rcases sV (Z a c) 0 with k|k|k
 .exact k
 .have h1:=T.zero k
  have d:=T.trans g (kQ h1);exact aX d (T.KH h)
 .have h1:=T.Tz k
  have d:=T.trans g (sW h1);exact aX d (T.KH h)
theorem TO.aaA(T:TO Z){a b c:Y}(h:Z a b<=0)(g:Z b c<0):Z a c<0:=by
 rcases sV (Z a c) 0 with k|k|k
 .exact k
 .have h1:=T.zero k
  have d:=T.trans (kQ h1) h;exact aX d (T.KH g)
 .have h1:=T.Tz k
  have d:=T.trans (sW h1) h;exact aX d (T.KH g)
theorem TO.eq_trans(T:TO Z){a b c:Y}(h:Z a b=0)(g:Z b c=0):Z a c=0:=by
 have h1:=T.trans (kQ h) (kQ g);have d:=T.trans (kQ (T.zero g)) (kQ (T.zero h));rcases sV (Z a c) 0 with k|k|k
 .exact aX d (T.KH k)
 .exact k
 .omega
def Srt(Z:Y->Y->Int)(l:List Y):Prop:=l.Pairwise λa b=>Z a b<=0
include T in
end
section
open Go.Conc (G)
variable{a a':AV}{u:Value}{ι:Nm}
inductive Gq(ids:List Nat):AV->Prop
 |low {a:AV}:a.low 0=true->Gq ids a
 |ptr {i o:Nat}:i∈ids->Gq ids (.ptr i o)
 |sl {i o n:Nat} {cap:Option Nat}:i∈ids->Gq ids (.sl i o n cap)
 |clo {f:FuncId} {i o:Nat}:i∈ids->Gq ids (.fn f [] [.ptr i o])
inductive Told(β:Nat->Option Nat):AV->AV->Prop
 |low {a:AV}:a.low 0=true->a≠.aQ->Told β a a
 |nil:Told β .aQ (.aO none 0 0)
 |ptr {i o b:Nat}:β i=some b->Told β (.ptr i o) (.ptr (OLD+b) o)
 |sl {i o n b c:Nat} {cap:Option Nat}:β i=some b->n<=c->Told β (.sl i o n cap) (.aO (some (b,o)) n c)
 |clo {f:FuncId} {i o b:Nat}:β i=some b->Told β (.fn f [] [.ptr i o]) (.fn f [] [.ptr (OLD+b) o])
def Ea(d:Nat->Option Nat)(l b:List AV):Prop:=l.length=b.length∧∀(i:Nat) (a:AV),l[i]? =some a->∃c,b[i]? =some c∧Told d a c
theorem Xj(b o:Nat):AV.low 0 (.ptr (OLD+b) o)=true:=by
 show(Nat.blt (OLD+b) 0||Nat.ble OLD (OLD+b))=true;rw[bF (gY _ _),jX]
theorem Told.lw{b:Nat->Option Nat}(h:Told b a a'):AV.low 0 a'=true:=by
 cases h with
 |low h=>exact h
 |nil=>rfl
 |ptr=>exact Xj _ _
 |sl=>rfl
 |clo=>show(AV.fG 0 []&&(AV.low 0 (.ptr (OLD+_) _)&&true))=true;rw[Xj];rfl
theorem Ea.lw{c:Nat->Option Nat}{l b:List AV}(h:Ea c l b):∀a∈b,AV.low 0 a=true:=λa d=>by
 obtain⟨i,hi,rfl⟩:=ql.1 d;obtain⟨f,h1,e⟩:=h.2 i _ (aI (by rw[h.1];exact hi));rw[aI hi]at h1;cases h1;exact e.lw
theorem Ry(b:Nat):dR (OLD+b)=some (b,0):=by unfold dR;rw[aC (gY _ _),nO]
theorem Gq.told{ids:List Nat}{e:Nat->Option Nat}(n:Ext dR ι)(c:∀i∈ids,∃p,ι i=some p∧e i=some p.1)(o:Gq ids a)(h:RV ι a u):∃f,Told e a f∧RV dR f u:=by
 cases o with
 |low g=>
  by_cases j:a= .aQ
  .subst j
   refine⟨_,.nil,?_⟩;unfold RV at h ⊢;exact⟨none,h,aj _,λ_=>⟨rfl,rfl⟩,λ_=>rfl⟩
  .exact⟨a,.low g j,RV.vC n g h⟩
 |ptr hi=>
  obtain⟨p,e1,e2⟩:=c _ hi;refine⟨_,.ptr e2,?_⟩;unfold RV at h ⊢;obtain⟨q,b,rfl⟩:=h;rw[e1]at b;cases b;exact⟨_,Ry _,rfl⟩
 |sl hi=>
  obtain⟨p,e1,e2⟩:=c _ hi;obtain⟨q,b,k,rfl,d,_⟩:=kE h;rw[e1]at b;cases b;refine⟨_,.sl e2 d,?_⟩;unfold RV;exact⟨none,rfl,d,λs=>(by cases s),λ_=>rfl⟩
 |clo hi=>
  obtain⟨p,e1,e2⟩:=c _ hi;refine⟨_,.clo e2,?_⟩;obtain⟨as,bs,rfl,h1,t⟩:=yP h;unfold RV;refine⟨as,bs,rfl,?_,?_⟩
  .rw[bU h1];exact dG
  .obtain⟨v,r,w,l,x⟩:=bf t
   rw[w];refine cO ?_ (by rw[bU x];exact dG);unfold RV at l ⊢;obtain⟨q,b,rfl⟩:=l;rw[e1]at b;cases b;exact⟨_,Ry _,rfl⟩
theorem Gq.Zw{ids:List Nat}{g:Nat->Option Nat}{ι:Nm}(j:Ext dR ι)(c:∀i∈ids,∃p,ι i=some p∧g i=some p.1):∀{l:List AV} {d:List Value},(∀a∈l,Gq ids a)->dS ι l d->∃e,Ea g l e∧dS dR e d
 |[],d,_,h=>⟨[],⟨rfl,λi a h=>by cases h⟩,by rw[bU h];exact dG⟩
 |a::l,d,k,h=>by
  obtain⟨v,r,rfl,h1,o⟩:=bf h;obtain⟨n,t1,t2⟩:=Gq.told j c (k a (dA ..)) h1;obtain⟨e,⟨t3,t4⟩,t5⟩:=Gq.Zw j c (λb f=>k b (aY _ f)) o;refine⟨n::e,⟨by simp[t3],λi b f=>?_⟩,cO t2 t5⟩;cases i with
  |zero=>cases f;exact⟨n,rfl,t1⟩
  |succ i=>exact t4 i b (by simpa using f)
section
variable{P:Program}{E:Env}{Y:Old}{m:Mm}{N:Nat}
open Classical in
theorem CallM.borrow{ids:List Nat}{g:FuncId}{args:List AV}{Q:AV->Prop}(hc:∀i∈ids,∃vs el g z,m i= .cells vs el g z∧∀a∈vs,Gq ids a)(H:∀a∈args,Gq ids a)
 (B:∀(s:Old) (I:Nat->Option Nat) (l:List AV),Old.le Y s->Ea I args l->(∀i∈ids,∃b,I i=some b∧∀vs el g z,m i= .cells vs el g z->∃vs',Ea I vs vs'∧∀(o:Nat) a,vs'[o]? =some a->s b o=some a)->
  ∃Q':AV->Prop,jV P E s g l (λ_ v=>Q' v)∧∀v,Q' v->v.low 0=true∧Q v):
 CallM P E Y g args m N (λ_ v m' N'=>Q v∧v.low 0=true∧m'=m∧N'=N):=by
 intro K ι w vs c rest hP S L hf;have y:K.peek:=hP.pk rfl;have hE:=S.kV y;let I:Nat->Option Nat:=λi=>if i∈ids then(ι i).map (·.1)else none;have obj:∀i∈ids,∃p us ws el g z,ι i=some p∧m i= .cells ws el g z∧¬K.fz p.1∧K.own p.1∧dS ι ws us∧(∀o x,us[o]? =some x->w.cell? ⟨p.1,o,none⟩=some x)∧p.1<w.heap.size:=λi hi=>by
  obtain⟨ws,el,g,z,e,_⟩:=hc i hi;obtain⟨p,ob,e1,e2,e3,A,M⟩:=S.objs i (m i) rfl (by rw[e];trivial);rw[e]at M;obtain⟨cc,lo,hi',rfl,⟨l1,l2,hcc,hv⟩,_⟩:=M;refine⟨p,l1,ws,el,g,z,e1,e,e2,e3,hv,λo x hx=>?_,lt_of_heap A⟩;rw[cell_of A,← bI,hcc,aW]
  .exact hx
  .rw[aA]at hx;exact hx.1
 have O:∀i∈ids,∃p,ι i=some p∧I i=some p.1:=λi hi=>by
  obtain⟨p,_,_,_,_,_,e1,_⟩:=obj i hi;exact⟨p,e1,by show(if i∈ids then(ι i).map (·.1)else none)=_;rw[aC hi,e1];rfl⟩
 have tl:∀i∈ids,∃p D,ι i=some p∧(∀vs el g z,m i= .cells vs el g z->Ea I vs D)∧(∀(o:Nat) a,D[o]? =some a->AV.low 0 a=true∧∃x,w.cell? ⟨p.1,o,none⟩=some x∧RV dR a x):=λi hi=>by
  obtain⟨p,us,ws,el,g,z,e1,e2,e3,A,M,e6,e7⟩:=obj i hi;obtain⟨ws2,el2,g2,z2,e,ht⟩:=hc i hi;rw[e2]at e;cases e;obtain⟨D,t1,t2⟩:=Gq.Zw hE O ht M;refine⟨p,D,e1,λvs el g z e=>by rw[e2]at e;cases e;exact t1,λo a H=>?_⟩;obtain⟨x,r,t⟩:=t2.get H;exact⟨t1.lw a (bP H),x,e6 o x r,t⟩
 let F:Nat->List AV:=λi=>if h:i∈ids then Classical.choose (Classical.choose_spec (tl i h))else[];have hF:∀i (h:i∈ids),∃p,ι i=some p∧(∀vs el g z,m i= .cells vs el g z->Ea I vs (F i))∧(∀(o:Nat) a,(F i)[o]? =some a->AV.low 0 a=true∧∃x,w.cell? ⟨p.1,o,none⟩=some x∧RV dR a x):=λi h=>by
  have hFi:F i=Classical.choose (Classical.choose_spec (tl i h)):=dif_pos h;rw[hFi];exact⟨_,Classical.choose_spec (Classical.choose_spec (tl i h))⟩
 let Z:Nat->Prop:=λb=>∃i∈ids,∃p,ι i=some p∧p.1=b;have R:∀b,Z b->¬K.fz b∧K.own b∧b<w.heap.size:=λb ⟨i,hi,p,h1,h2⟩=>by
  obtain⟨q,_,_,_,_,_,e1,_,e3,A,_,_,e7⟩:=obj i hi;rw[h1]at e1;cases e1;subst h2;exact⟨e3,A,e7⟩
 let n:Old:=λb o=>if h:Z b then(F (Classical.choose h))[o]? else Y b o;have T:∀i∈ids,∀p,ι i=some p->∀(o:Nat) a,(F i)[o]? =some a->n p.1 o=some a:=λi hi p hp o a H=>by
  have h:Z p.1:=⟨i,hi,p,hp,rfl⟩;show(if h:Z p.1 then(F (Classical.choose h))[o]? else Y p.1 o)=some a;rw[dif_pos h];have hs:=Classical.choose_spec h;obtain⟨hj,q,hq,U⟩:=hs;have:Classical.choose h=i:=by
   obtain⟨ws,el,g,z,e,_⟩:=hc i hi;obtain⟨ws2,el2,g2,z2,e2,_⟩:=hc _ hj;exact S.inj _ _ _ _ q p rfl rfl (by rw[e2];trivial) (by rw[e];trivial) hq hp U
  rw[this];exact H
 let K1:Ctx:={ P:=K.P,W0:=w,fz:=λb=>K.fz b∨Z b,lo:=w.heap.size,own:=λb=>K.own b∧¬Z b,nZ:=λb d=>⟨K.nZ b (aS S.lo d),λf=>by have:=(R b f).2.2;omega⟩,peek:=K.peek };have z1:Fz K K1:=⟨rfl,λb d=> .inl d,λb d=>d.1,λb d=>d.imp (λh=>h) (λh=>(R b h).2.1),λb d=>S.old b d,S.os,S.tape,S.output,λhp=>hp⟩;have J:Old.le Y n:=λb o a e=>by
  show(if h:Z b then(F (Classical.choose h))[o]? else Y b o)=some a;rw[dif_neg λf=>(R b f).1 (hP.mem b o a e).2.1];exact e
 have hP1:Of K1 P (E.wo n):=by
  refine⟨hP.P,λb o a e=>?_,λ_=>y⟩;have e:(if h:Z b then(F (Classical.choose h))[o]? else Y b o)=some a:=e;by_cases f:Z b
  .rw[dif_pos f]at e
   obtain⟨hj,q,hq,U⟩:=Classical.choose_spec f;obtain⟨p,hp,_,h3⟩:=hF _ hj;rw[hq]at hp;cases hp;obtain⟨_,x,r,t⟩:=h3 o a e;exact⟨y,.inr f,x,by rw[← U];exact r,t⟩
  .rw[dif_neg f]at e
   obtain⟨_,G,x,r,t⟩:=hP.mem b o a e;refine⟨y,.inl G,x,?_,t⟩;show w.cell? ⟨b,o,none⟩=some x;unfold World.cell? at r ⊢;rw[S.old b G];exact r
 obtain⟨l,ta,tr⟩:=Gq.Zw hE O H L;obtain⟨Q',C,hQ⟩:=B n I l J ta (λi hi=>by
  obtain⟨p,hp,h2,h3⟩:=hF i hi;obtain⟨q,hq,hq2⟩:=O i hi;rw[hp]at hq;cases hq;exact⟨p.1,hq2,λvs el g z e=>⟨F i,h2 vs el g z e,λo a H=>T i hi p hp o a H⟩⟩)
 have Sb:Sat K1 dR eH w:=⟨λi o e=>(by rw[show eH.tr.get i=none from Tr.fO i]at e;cases e),λi j o o' p q e=>(by rw[show eH.tr.get i=none from Tr.fO i]at e;cases e),aj _,λb d=>d.elim (S.bs b) (λd=>(R b d).2.2),λ_ _=>rfl,rfl,rfl,rfl,λ_ _ _ h=>h⟩;refine((C K1 w vs c rest hP1 Sb tr).fz z1).mono ?_
 rintro d' g' w'' ⟨V,old2,v,u,rfl,z2,p2,l2,q2,rv,W,rfl,hsz,X⟩
 have k:=z1.trans z2;have hZw:∀b,Z b->w''.heap[b]? =w.heap[b]? :=λb f=>(W.old b (z2.fz b (.inr f))).trans (z2.heap b (.inr f));let K3:Ctx:={ P:=V.P,W0:=V.W0,fz:=λb=>V.fz b∧¬Z b,lo:=V.lo,own:=λb=>V.own b∨Z b,nZ:=λb d=> .inl (V.nZ b d),peek:=V.peek };obtain⟨hvl,hv⟩:=hQ v q2;refine⟨K3,Y,ι,v,u,m,N,rfl,⟨k.P,λb d=>⟨k.fz b d,λf=>(R b f).1 d⟩,λb d=>d.elim (k.own b) (λf=>(R b f).2.1),λb d=>k.new b d.1,λb d=>k.heap b d,k.os,k.tape,k.output,k.peek⟩,⟨p2.P,λb o a e=>?_,λ_=>p2.pk rfl⟩,Old.le_refl _,λ_ _ h=>h,?_,rv.mono hE,hf,⟨hv,hvl,rfl,rfl⟩,rfl⟩
 .obtain⟨_,G,_⟩:=hP.mem b o a e
  obtain⟨h1,h2,h3⟩:=p2.mem b o a (l2 b o a (J b o a e));exact⟨h1,⟨h2,λf=>(R b f).1 G⟩,h3⟩
 .refine⟨λi o e hl=>?_,S.inj,W.lo,λb d=>W.bs b d.1,λb d=>W.old b d.1,W.os,W.tape,W.output,λ_=>hE⟩
  obtain⟨p,ob,e1,e2,e3,A,M⟩:=S.objs i o e hl;by_cases f:Z p.1
  .exact⟨p,ob,e1,λh=>h.2 f,.inr f,(hZw _ f).trans A,by rw[k.P];exact M⟩
  .obtain⟨m1,m2,m3⟩:=X p.1 (lt_of_heap A) (λh=>h.elim e2 f) ⟨e3,f⟩
   exact⟨p,ob,e1,λh=>m2 h.1,.inl m1,m3.trans A,by rw[k.P];exact M⟩
end
end
section
variable{K:Ctx}{el:TypeId}{g:FuncId}{u:Value}{w:World}{ws:List AV}{ι:Nm}
section
variable{P:Program}{E:Env}{Z:Old}{m:Mm}{N:Nat}{R R1:qC}
theorem Ba.tell{K:Ctx}{ι:Nm}{w:World}{id:Nat}{o e:AO}(S:Ba K ι m w)(hi:m id=o)(j:o.live)(h:∀q ob,ι id=some q->w.heap[q.1]? =some ob->RO K.P ι q.2 o ob->RO K.P ι q.2 e ob):Ba K ι (dn m [(id,e)]) w:=by
 refine⟨λk ok p d=>?_,λa b A ob r s t eb u v f g i=>?_,S.lo,S.bs,S.old,S.os,S.tape,S.output,S.kV⟩
 .subst p
  by_cases c:k=id
  .rw[show dn m [(id,e)] k=e from aC c]
   subst c;obtain⟨q,ob,l,x,y,n,z⟩:=S.objs k _ hi j;exact⟨q,ob,l,x,y,n,h q ob l n z⟩
  .rw[show dn m [(id,e)] k=m k from ah c]at d ⊢
   exact S.objs k _ rfl d
 .have get:∀k,(dn m [(id,e)] k).live->(m k).live:=λk d=>by
   by_cases c:k=id
   .subst c;rw[hi];exact j
   .rw[show dn m [(id,e)] k=m k from ah c]at d;exact d
  subst t;subst eb;exact S.inj a b _ _ r s rfl rfl (get a u) (get b v) f g i
theorem dS.ag3{ι:Nm}:∀(l:List Value),dS ι (List.replicate l.length .any) l
 |[]=>dG
 |_::l=>cO (by unfold RV;trivial) (dS.ag3 l)
theorem CallM.room{post:List AV}{b n:Nat}{vs:List AV}(i:P.cellsOf el=1)(o:m b= .cells vs el true false)
 (B:∀k e,n<=k->k<=vs.length+e->CallM P E Z g (.sl b 0 n (some k)::post) (dn m [(b,.cells (vs++List.replicate e .any) el true false)]) N R):CallM P E Z g (.sl b 0 n none::post) m N R:=by
 intro K ι w A c d s S C D;obtain⟨v,r,j,h1,F⟩:=bf C;obtain⟨p,hp,cap,rfl,f,_,a⟩:=kE h1;have a:=a rfl rfl;obtain⟨q,ob,t,O,Q,G,H⟩:=S.objs b _ o trivial;obtain rfl:p=q:=by rw[hp]at t;exact aN t
 obtain⟨cc,lo,hi,rfl,⟨l1,l2,u,x⟩,T,g2,I⟩:=H;have l:cc.size=p.2:=by rw[g2 rfl,s.P,i,bJ]
 have J:l1.length+l2.length=p.2:=by rw[← l,← Array.length_toList,u,bC]
 refine B cap l2.length f (by rw[x.length];omega) K ι w A c d s ?_ ?_ D
 .refine S.tell o trivial λq' L y z U=>?_
  rw[hp]at y;cases y;rw[G]at z;cases z;exact⟨cc,lo,hi,rfl,⟨l1++l2,[],by rw[dD];exact u,x.append (dS.ag3 l2)⟩,λh=>(by cases h),g2,I⟩
 .rw[j]
  refine cO ?_ F;unfold RV;exact⟨p,hp,cap,rfl,f,λk M=>by cases M;rfl,λh=>by cases h⟩
theorem CallM.tell{g:FuncId}{args:List AV}(A:CallM P E Z g args m N R1)
 (j:∀e v h N',Old.le Z e->R1 e v h N'->∃v2 m2,R e v2 m2 N'∧∀K ι w u,K.P=P->Ba K ι h w->RV ι v u->RV ι v2 u∧Ba K ι m2 w):CallM P E Z g args m N R:=λK ι w vs c f k S n o=>
 (A K ι w vs c f k S n o).mono λd g w ⟨i,y,ι',v,u,h,N',a,b,p,l,x,s,rv,fr,q,r⟩=>by
  obtain⟨v2,m2,r2,t⟩:=j _ _ _ _ l q;obtain⟨t1,t2⟩:=t i ι' w u p.P s rv;exact⟨i,y,ι',v2,u,m2,N',a,b,p,l,x,t2,t1,fr,r2,r⟩
theorem Ya{a n k:Nat}{vs:List AV}(t:K.P=P)(c:P.cellsOf el=1)(f:m a= .cells (vs++ws) el true false)(g:k<=(vs++ws).length)(S:Ba K ι m w)(h:RV ι (.sl a 0 n (some k)) u):
 RV ι (.sl a 0 n none) u∧Ba K ι (dn m [(a,.cells vs el true false)]) w:=by
 obtain⟨p,hp,cap,rfl,d,b,_⟩:=kE h;obtain rfl:=b k rfl;obtain⟨q,ob,i,C,D,v,x⟩:=S.objs a _ f trivial;obtain rfl:p=q:=by rw[hp]at i;exact aN i
 obtain⟨cc,lo,hi,rfl,⟨l1,l2,j,l⟩,F,g2,y⟩:=x;have e:cc.size=p.2:=by rw[g2 rfl,t,c,bJ]
 have z:l1.length+l2.length=p.2:=by rw[← e,← Array.length_toList,j,bC]
 have o:=l.length;refine⟨?_,S.tell f trivial λq' A r s G=>?_⟩
 .unfold RV
  exact⟨p,hp,cap,rfl,d,λk g=>(by cases g),λ_ _=>(by omega)⟩
 .rw[hp]at r;cases r
  rw[v]at s;cases s;obtain⟨B,H⟩:=yF l;exact⟨cc,lo,hi,rfl,⟨l1.take vs.length,l1.drop vs.length++l2,by rw[j,← fC,mg],B⟩,λh=>(by cases h),g2,y⟩
end
end
section
variable{P:Program}{E:Env}{Z:Old}{f f':AF}{m Y:Mm}{N N':Nat}{R R':qC}{θ:Pm}{l:List (Nat×AO)}{h0 X:AH}
theorem MZ{m:Mm}:∀{l:List (Nat×AO)},(∀e∈l,m e.1=e.2)->dn m l=m
 |[],_=>rfl
 |(i,o)::l,h=>by
  funext k;unfold dn;by_cases a:k=i
  .rw[aC a,a];exact(h (i,o) dA).symm
  .rw[ah a,MZ λe b=>h e (aY _ b)]
noncomputable def roL(θ:Pm)(h:AH):List (Nat×AO):=(ents h.tr).map λe=>(θ.to e.1,e.2.ren θ.to)
theorem ab9{h:AH}{e:Nat×AO}(a:e∈roL θ h):∃i o,h.tr.get i=some o∧e=(θ.to i,o.ren θ.to):=by
 obtain⟨p,h1,rfl⟩:=gU.1 a;exact⟨p.1,p.2,aaS h1,rfl⟩
theorem Jt{h:AH}(a:∀e∈ents h.tr,m (θ.to e.1)=e.2.ren θ.to):dn m (roL θ h)=m:=MZ λe b=>by
 obtain⟨p,h1,rfl⟩:=gU.1 b;exact a p h1
theorem Lift.ro{h:AH}(j:∀e∈ents h.tr,m (θ.to e.1)=e.2.ren θ.to)(k:N<=OLD)(d:Nat.ble h.nx OLD=true)(c:h.df=0):Lift θ m (roL θ h) N N h h:=
 ⟨j,λe g=>gU.2 ⟨_,gU.2 ⟨e,g,rfl⟩,rfl⟩,λe g _=>by
  obtain⟨i,o,h1,rfl⟩:=ab9 g;exact⟨i,o,h1,rfl,rfl⟩,λi a b=>aX b (by omega),aj _,d,k,c,c⟩
theorem dL.Pn{h:AH}{f0 f0':AF}(D:DoesS P (E.wo Z) f0 h f0' h)(c:∀e∈ents h.tr,m (θ.to e.1)=e.2.ren θ.to)(d:N<=OLD)(a:Nat.ble h.nx OLD=true)(b:h.df=0)(g:f0.plain)(i:f0'.plain)(e:f=f0.ren θ.to)(j:f0'.ren θ.to=f')(B:dL P E Z f' m N R):dL P E Z f m N R:=
 dL.lift (Lift.ro c d a b) D g i e j (by rw[Jt c];exact B)
theorem dL.YC{h:AH}{f0:AF}{v0:AV}(D:Does P (E.wo Z) f0 h v0 h)(c:∀e∈ents h.tr,m (θ.to e.1)=e.2.ren θ.to)(d:N<=OLD)(a:Nat.ble h.nx OLD=true)(b:h.df=0)(g:f0.plain)(e:f=f0.ren θ.to)(B:R Z (v0.ren θ.to) m N):dL P E Z f m N R:=
 dL.uy (Lift.ro c d a b) D g e (by rw[Jt c];exact B)
theorem dL.Vs{h:AH}{f0:AF}{c:List UK}{g:FuncId}{zD:List AV}{R1:qC}(F:Fits P (E.wo Z))(FF:eU P (E.wo Z))(A:AtCall P (E.wo Z) c f0 h g zD h)(j:∀e∈ents h.tr,m (θ.to e.1)=e.2.ren θ.to)(k:N<=OLD)(d:Nat.ble h.nx OLD=true)(i:h.df=0)(n:f0.plain)(o:∀v,(lu P (E.wo Z) c f0 h v).plain)(e:f=f0.ren θ.to)
 (C:CallM P E Z g (AV.jM θ.to zD) m N R1)(B:∀a v Y b,Old.le Z a->R1 a v Y b->dL P E a ((lu P (E.wo Z) c f0 h (v.un θ)).ren θ.to) Y b R):dL P E Z f m N R:=
 dL.BA F FF (Lift.ro j k d i) A n o e (by rw[Jt j];exact C) B
end
section
open Go.Conc (G)
noncomputable def ng(x:AX):Tr AV->List Oper->List AV->Tr AV
 |tm,o::os,v::vs=>ng x (fin x o.dst v tm) os vs
 |tm,_,_=>tm
noncomputable def zX(E:Env)(x:AX)(ops:Array Oper)(h:AH):Tr AV->List Oper->List AV->List Prop
 |tm,o::os,v::vs=>(dU o ops tm=some true)::(jZ o.op=false)::(fD o.op E tm h=some v)::zX E x ops h (fin x o.dst v tm) os vs
 |_,_,_=>[]
noncomputable def Ku(x:AX):Nat->Tr AV->List Oper->List AV->List DQ->List DQ
 |i,tm,o::os,v::vs,q=>Ku x (i+1) (fin x o.dst v tm) os vs (cond (kG o.op) (⟨o.op,i,tm,v⟩::q) q)
 |_,_,_,_,q=>q
structure Pre(E:Env)(x:AX)(ops:Array Oper)(h:AH)(c:Nat)(tm:Nat->Tr AV)(v:Nat->AV):Prop where
 step:∀j,j<c->∃o,ops[j]? =some o∧tm (j+1)=fin x o.dst (v j) (tm j)∧dU o ops (tm j)=some true∧jZ o.op=false∧fD o.op E (tm j) h=some (v j)
theorem Kt{x:AX}{o:Oper}{v:AV}:∀{tm:Tr AV} {l:List Oper} {vs:List AV},l.length=vs.length->ng x tm (l++[o]) (vs++[v])=fin x o.dst v (ng x tm l vs)
 |tm,[],[],_=>rfl
 |tm,a::l,w::vs,h=>Kt (tm:=fin x a.dst w tm) (l:=l) (vs:=vs) (by simpa using h)
 |tm,[],_::_,h=>by simp at h
 |tm,_::_,[],h=>by simp at h
theorem Nq{x:AX}:∀{l:List Oper} {i:Nat} {tm:Tr AV} {vs:List AV} {q:List DQ} {d:DQ},d∈q->d∈Ku x i tm l vs q
 |[],i,tm,[],q,d,h=>h
 |[],i,tm,_::_,q,d,h=>h
 |_::_,i,tm,[],q,d,h=>h
 |o::l,i,tm,v::vs,q,d,h=>Nq (l:=l) (by
  cases kG o.op with
  |true=>exact aY _ h
  |false=>exact h)
section
variable{E:Env}{x:AX}{ops:Array Oper}{h:AH}
theorem Z7{c:Nat}{tm0:Tr AV}{a:List AV}(A:c<=ops.size)(B:a.length=c):∀(os:List Oper) (i:Nat) (vs:List AV) (q:List DQ),os=(ops.toList.take c).drop i->vs=a.drop i->i<=c->(∀p∈zX E x ops h (ng x tm0 (ops.toList.take i) (a.take i)) os vs,p)->
 ∀j,i<=j->j<c->∃o,ops[j]? =some o∧ng x tm0 (ops.toList.take (j+1)) (a.take (j+1))=fin x o.dst (a.getD j .any) (ng x tm0 (ops.toList.take j) (a.take j))∧dU o ops (ng x tm0 (ops.toList.take j) (a.take j))=some true∧jZ o.op=false∧fD o.op E (ng x tm0 (ops.toList.take j) (a.take j)) h=some (a.getD j .any)∧
  (kG o.op=true->⟨o.op,j,ng x tm0 (ops.toList.take j) (a.take j),a.getD j .any⟩∈Ku x i (ng x tm0 (ops.toList.take i) (a.take i)) os vs q):=by
 intro os;induction os with
 |nil=>
  intro i vs q k _ hi _ j h1 s;have:=gu List.length k;simp at this;omega
 |cons o os u=>
  intro i vs q k t hi H j h1 s;have v:i<c:=by omega
  have m:i<(ops.toList.take c).length:=by simp;omega
  have f:=k;rw[bn m]at f;injection f with n r;have g:ops[i]? =some o:=by
   rw[n,dI (by omega)];simp
  have d:i<a.length:=by omega
  rw[bn d]at t;subst t;have b:a.getD i .any=a[i]:=by rw[List.getD_eq_getElem?_getD,aI d];rfl
  have e:ng x tm0 (ops.toList.take (i+1)) (a.take (i+1))=fin x o.dst a[i] (ng x tm0 (ops.toList.take i) (a.take i)):=by
   rw[List.take_succ,List.take_succ,aI d,bI,g];exact Kt (by simp;omega)
  have w:=H _ (dA ..);have y:=H _ (aY _ (dA ..));have z:=H _ (aY _ (aY _ (dA ..)));rcases kK h1 with rfl|h1
  .refine⟨o,g,by rw[b];exact e,w,y,by rw[b];exact z,λhr=>?_⟩
   rw[b];refine Nq (l:=os) ?_;rw[hr];exact dA ..
  .have:=u (i+1) (a.drop (i+1)) (cond (kG o.op) (⟨o.op,i,ng x tm0 (ops.toList.take i) (a.take i),a[i]⟩::q) q) r rfl (by omega) (λp hp=>H p (by
    refine aY _ (aY _ (aY _ ?_));rw[e]at hp;exact hp)) j (by omega) s
   rw[e]at this;exact this
end
section
variable{P:Program}{E:Env}{K:Ctx}{x:AX}{ops:Array Oper}{h:AH}{ds:List AD}{k':List Item}{cs:List Frame}{c:Nat}{tmF:Nat->Tr AV}{vF:Nat->AV}{Z:Nm}
noncomputable def Iu(x:AX)(ops:Array Oper)(h:AH)(c:Nat)(tmF:Nat->Tr AV)(vF:Nat->AV):wB:=⟨λj=>if j<=c then tmF j else fin x (rJ ops c) (vF c) (tmF c),λ_=>h,λ_=>[],vF,λ_=> .dead,λ_=>2,c+1⟩
theorem UD(pre:Pre E x ops h c tmF vF):∀j,j<(Iu x ops h c tmF vF).n->(Iu x ops h c tmF vF).tm (j+1)=fin x (rJ ops j) ((Iu x ops h c tmF vF).v j) ((Iu x ops h c tmF vF).tm j):=λj hj=>by
 have hj:j<c+1:=hj;show(if j+1<=c then tmF (j+1)else fin x (rJ ops c) (vF c) (tmF c))=fin x (rJ ops j) (vF j) (if j<=c then tmF j else _);rw[aC (show j<=c by omega)];by_cases h1:j+1<=c
 .rw[aC h1]
  obtain⟨o,a,e,_⟩:=pre.step j (by omega);rw[e,BP a]
 .have:j=c:=by omega
  subst this;rw[ah h1]
def AtC(K:Ctx)(Z:Nm)(x:AX)(ops:Array Oper)(h:AH)(ds:List AD)(k':List Item)(c:Nat)(tmF:Nat->Tr AV)(vF:Nat->AV)(cs:List Frame):Nat->Goroutine->World->Prop:=λd g w=>
 ∃a t listed fr,g=G fr cs∧listed.size=ops.size∧left' ops.size (listed.setIfInBounds c true)<=a∧(∀i,c<=i->Dl listed i=false)∧Closed ops (Dl listed)∧Ready ops (Dl listed) c∧Sat K Z h w∧
  pG Z x (tH x ops (Iu x ops h c tmF vF) (Dl listed) ops.size) ds ops c (Region.linearise.go .any ops a t (listed.setIfInBounds c true) []) k' fr∧d=h.df
theorem ac5(F:Fits P E)(O:Of K P E)(R:lY ops)(L:c<ops.size)(q:∀i,c<i->i<ops.size->Bf ops i c)(pre:Pre E x ops h c tmF vF):∀(a t:Nat) (listed:Array Bool) (w:World) (fr:Frame),listed.size=ops.size->left' ops.size listed<=a->(∀i,c<=i->Dl listed i=false)->Closed ops (Dl listed)->Sat K Z h w->
 iC Z x (tH x ops (Iu x ops h c tmF vF) (Dl listed) ops.size) ds ops (Region.linearise.go .any ops a t listed []) k' fr->Walk P true K (AtC K Z x ops h ds k' c tmF vF cs) h.df (G fr cs) w:=by
 intro a;induction a with
 |zero=>
  intro t listed w fr g v b _ _ _;exfalso;have:c∈(List.range ops.size).filter λi=>Dl listed i==false:=iR.2 ⟨iO.2 L,by rw[b c (aj _)];rfl⟩;have:=List.length_pos_of_mem this;unfold left' at v;omega
 |succ a Q=>
  intro t listed w fr g v b d S H;rcases BG ops a t listed with⟨h1,y⟩|⟨i,h1,y⟩
  .have:=EI R g h1 c L
   rw[b c (aj _)]at this;cases this
  .rw[y]at H
   have hi:=Q5 R g d h1;have z:pG Z x (tH x ops (Iu x ops h c tmF vF) (Dl listed) ops.size) ds ops i (Region.linearise.go .any ops a (t / (Region.ready .any ops listed).length) (listed.setIfInBounds i true) []) k' fr:=⟨H.fn,H.tm,H.todo,H.ds,H.mode,H.kind,H.round⟩;have T:=FH hi.lt g hi.no;rcases Nat.lt_trichotomy i c with k|rfl|k
   .obtain⟨o,A,U,V,hf,W⟩:=pre.step i k
    have r:(Iu x ops h c tmF vF).tm i=tmF i:=aC (by omega);have e:∀t∈o.looksAt ops,(tH x ops (Iu x ops h c tmF vF) (Dl listed) ops.size).get t=(tmF i).get t:=λt X=>by
     rw[← r];exact Hz R (UD pre) d hi (by show i<c+1;omega) A X
    have m:dU o ops (tH x ops (Iu x ops h c tmF vF) (Dl listed) ops.size)=dU o ops (tmF i):=Bz e;have f:Alike (tH x ops (Iu x ops h c tmF vF) (Dl listed) ops.size) (tmF i) o.op.operands.toList:=Et e;have B:fD o.op E (tH x ops (Iu x ops h c tmF vF) (Dl listed) ops.size) h=some (vF i):=by rw[IG f];exact W
    refine Walk.of rfl λM n=>?_;have u:=S.rely n;have C:=quiet_step (main:=true) (cs:=cs) O F u z A (jY z.tm (by rw[m];exact V)) B;obtain⟨ι',D,w',es,Y,g2,g3,g4,g5,g6⟩:=C (λj h1 y=>by omega);have I:ι'=Z:=by funext j;exact g2.same j (by omega)
    subst I;refine⟨_,w',es,Y,g5,?_⟩;rw[g6];have J:=LW (listed:=listed) (i:=i) (by rw[g];exact hi.lt);refine Q _ _ w' D (by simp[g]) (by omega) (λl v=>?_) (by rw[J];exact d.add hi) g3 (iC.tmc _ g4 λs=>?_)
    .rw[J,pq (by omega)];exact b l v
    .rw[J];exact Ou R d hi A s
   .exact .stop λN p=>⟨a,_,listed,fr,rfl,g,by omega,b,d,hi,S.rely p,z,rfl⟩
   .have:=hi.ahead c (q i k hi.lt)
    rw[b c (aj _)]at this;cases this
end
end
section
open Go.Conc (G)
section
variable{E:Env}{x:AX}{Z:Array Oper}{b:Array Nat}
theorem J7{r r2:Nat->yc}{h0:AH}:∀(os:List Oper) (i:Nat) (tm:Tr AV) (a:List DQ) (d:List (Nat×AH)) (ps:List (Nat×Nat×AO)) (h:AH),(∀j,i<=j->r j=r2 j)->uJ E r x b Z h0 os i tm a d ps h=uJ E r2 x b Z h0 os i tm a d ps h
 |[],_,_,_,_,_,_,_=>rfl
 |o::os,i,tm,a,d,ps,h,hr=>by
  have e:∀tm a d ps h,uJ E r x b Z h0 os (Nat.succ i) tm a d ps h=uJ E r2 x b Z h0 os (Nat.succ i) tm a d ps h:=λtm a d ps h=>J7 os (Nat.succ i) tm a d ps h λj hj=>hr j (by omega);unfold uJ;rw[hr i (aj _)];simp only[e]
def told(v:AV):yc:=⟨λ_ _ h=>some (v,h),λ_ _ _=>none⟩
theorem abY(v:AV):(told v).Up:=⟨λg args h p e=>by cases e;exact aj _,λl args h p e=>by cases e⟩
noncomputable def rT(P:Program)(E:Env)(L:List DA)(c:Nat)(v:AV)(i:Nat):yc:=if i=c then told v else rOf P E L i
def T2(tmF:Nat->Tr AV)(vF:Nat->AV)(v:AV)(h3:AH)(c n:Nat)(T:wB):wB where
 tm:=λj=>if j<=c then tmF j else T.tm j
 h:=λj=>if j<=c then h3 else T.h j
 ps:=λj=>if j<=c then[]else T.ps j
 v:=λj=>if j<c then vF j else if j=c then v else T.v j
 ob:=T.ob
 kind:=λj=>if j<c then 2 else if j=c then 3 else T.kind j
 n:=n
section
variable{tmF:Nat->Tr AV}{vF:Nat->AV}{v:AV}{Y:AH}{c n j:Nat}{T:wB}
theorem ahi(h:j<=c):(T2 tmF vF v Y c n T).tm j=tmF j∧(T2 tmF vF v Y c n T).h j=Y∧(T2 tmF vF v Y c n T).ps j=[]:=⟨aC h,aC h,aC h⟩
theorem ahj(h:c<j):(T2 tmF vF v Y c n T).tm j=T.tm j∧(T2 tmF vF v Y c n T).h j=T.h j∧(T2 tmF vF v Y c n T).ps j=T.ps j:=⟨ah (by omega),ah (by omega),ah (by omega)⟩
theorem ae6(h:j<c):(T2 tmF vF v Y c n T).v j=vF j∧(T2 tmF vF v Y c n T).kind j=2:=⟨aC h,aC h⟩
theorem ae7(h:c<j):(T2 tmF vF v Y c n T).v j=T.v j∧(T2 tmF vF v Y c n T).kind j=T.kind j:=by
 constructor
 .show(if j<c then vF j else if j=c then v else T.v j)=_;rw[ah (by omega),ah (by omega)]
 .show(if j<c then 2 else if j=c then 3 else T.kind j)=_;rw[ah (by omega),ah (by omega)]
theorem aiA:(T2 tmF vF v Y c n T).v c=v∧(T2 tmF vF v Y c n T).kind c=3:=by
 constructor
 .show(if c<c then vF c else if c=c then v else T.v c)=_;rw[ah (jL _),aC rfl]
 .show(if c<c then 2 else if c=c then 3 else T.kind c)=_;rw[ah (jL _),aC rfl]
end
theorem adA{tmF:Nat->Tr AV}{vF:Nat->AV}{v:AV}{h3:AH}{c n:Nat}{T:wB}(g:c<n)(a:T.h (c+1)=h3):nU (T2 tmF vF v h3 c n T) 0 n=[(c,h3)]++nU T (c+1) (n - (c+1)):=by
 unfold nU;have e:List.range' 0 n=List.range' 0 c++(c::List.range' (c+1) (n - (c+1))):=by
  rw[show c::List.range' (c+1) (n - (c+1))=List.range' c ((n - (c+1))+1)from(zJ ..).symm];have:=List.range'_append (s:=0) (m:=c) (n:=n - (c+1)+1) (step:=1);rw[show 0+1*c=c by omega,show c+(n - (c+1)+1)=n by omega]at this;exact this.symm
 rw[e,List.filter_append,oO,uw];have e1:(List.range' 0 c).filter (λj=>(T2 tmF vF v h3 c n T).kind j==3)=[]:=by
  rw[List.filter_eq_nil_iff];intro j hj;have:=List.mem_range'_1.1 hj;have:(T2 tmF vF v h3 c n T).kind j=2:=aC (by omega);rw[this];decide
 have e2:((T2 tmF vF v h3 c n T).kind c==3)=true:=by
  have:(T2 tmF vF v h3 c n T).kind c=3:=by show(if c<c then 2 else if c=c then 3 else T.kind c)=3;rw[ah (jL _),aC rfl]
  rw[this];rfl
 have d:(List.range' (c+1) (n - (c+1))).filter (λj=>(T2 tmF vF v h3 c n T).kind j==3)=(List.range' (c+1) (n - (c+1))).filter (λj=>T.kind j==3):=List.filter_congr λj hj=>by
  have:=List.mem_range'_1.1 hj;have:(T2 tmF vF v h3 c n T).kind j=T.kind j:=by show(if j<c then 2 else if j=c then 3 else T.kind j)=_;rw[ah (by omega),ah (by omega)]
  rw[this]
 rw[e1,aC e2,d,List.map_nil,iE,yT];have f:(T2 tmF vF v h3 c n T).h (c+1)=h3:=by show(if c+1<=c then h3 else T.h (c+1))=h3;rw[ah (by omega),a]
 rw[f];congr 1;refine List.map_congr_left λj hj=>?_;have:=List.mem_range'_1.1 (iR.1 hj).1;have:(T2 tmF vF v h3 c n T).h (j+1)=T.h (j+1):=ah (by omega);rw[this]
theorem U0{T T':wB}{D:Nat->Bool}(h0:T.tm 0=T'.tm 0):∀n,(∀j,j<n->D j=true->T.v j=T'.v j)->tH x Z T D n=tH x Z T' D n
 |0,_=>h0
 |n+1,h=>by
  have a:=U0 h0 n λj hj=>h j (by omega);unfold tH;rw[a];cases d:D n with
  |false=>rfl
  |true=>rw[h n (cZ n) d]
theorem Wv{N:Nat}{T:wB}(R:lY Z){D:Nat->Bool}(h0:∀t a,(T.tm 0).get t=some a->a.low N=true)(f:AV.low N iw=true):∀n,(∀j,j<n->D j=true->(T.v j).low N=true)->∀t a,(tH x Z T D n).get t=some a->a.low N=true
 |0,_,t,a,e=>h0 t a e
 |n+1,h,t,a,e=>by
  have g:=Wv R h0 f n (λj hj=>h j (by omega)) t a;unfold tH at e;cases d:D n with
  |false=>rw[d]at e;exact g e
  |true=>
   rw[d,bG,Aj (λi hi=>wJ R hi)]at e;split at e
   .cases e
    cases Nat.blt t x.nt with
    |true=>exact h n (cZ n) d
    |false=>exact f
   .exact g e
end
section
variable{P:Program}{E:Env}{K:Ctx}{x:AX}{Z:Array Oper}{Y V:AH}{M:List AD}{N:List Item}{cs:List Frame}{c:Nat}{tmF:Nat->Tr AV}{vF:Nat->AV}{O:Nm}
theorem YQ(F:Fits P E)(FF:eU P E)(hP:Of K P E)(hreg:wS Z.toList (Region.before Z) Z=true)(hc:c<Z.size){o:Oper}(ho:Z[c]? =some o)(pre:Pre E x Z Y c tmF vF){Q:List DQ}(hQ:∀j,j<c->∀o,Z[j]? =some o->kG o.op=true->⟨o.op,j,tmF j,vF j⟩∈Q)
 (hw:dU o Z (tmF c)=some true){g:FuncId}{args:List AV}(hl:fQ o.op E (tmF c) Y=some (.call g args)){cd:Code}{nt:Nat}{rs:List ResultVar}{ex:EX}(hg:E.ft.get g=some ⟨some cd,nt,rs,ex⟩){v:AV}{as:List DA}{z:Tr AV}{obs:List Prop}
 (hpost:y8 P E x (Region.before Z) Z Y as (Z.toList.drop (c+1)) (c+1) (fin x o.dst v (tmF c)) Q [(c,Y)] [] Y=some (z,V,obs))(hobs:All obs)(hf:Free O Y.nx V.nx)
 {u t:Nat}{listed:Array Bool}{w:World}{fr:Frame}(hs:listed.size=Z.size)(hlf:left' Z.size (listed.setIfInBounds c true)<=u)(hno:∀i,c<=i->Dl listed i=false)(hcl:Closed Z (Dl listed))(hi:Ready Z (Dl listed) c)(S:Sat K O Y w)
 (H:iC O x (fin x o.dst v (tH x Z (Iu x Z Y c tmF vF) (Dl listed) Z.size)) M Z (Region.linearise.go .any Z u t (listed.setIfInBounds c true) []) N fr):
 Walk P true K (λd g w=>∃ι' C,g=G C cs∧Grow O ι' Y.nx V.nx∧Sat K ι' V w∧iC ι' x z M Z [] N C∧d=V.df) Y.df (G fr cs) w:=by
 have R:=Fb hreg;let L:List DA:=List.replicate (c+1) .c++as;have e0:=WU (P:=P) (E:=E) (x:=x) (b:=Region.before Z) (ops:=Z) (h0:=Y) L as (Z.toList.drop (c+1)) (c+1) _ Q [(c,Y)] [] Y z V obs (λj a hj=>by
  show(List.replicate (c+1) DA.c++as)[c+1+j]? =some a;rw[bD (by simp),List.length_replicate,nO];exact hj) hpost (All.mem hobs)
 have e1:uJ E (rT P E L c v) x (Region.before Z) Z Y (Z.toList.drop (c+1)) (c+1) (fin x o.dst v (tmF c)) Q [(c,Y)] [] Y=some (z,V):=by
  rw[← e0];exact J7 _ _ _ _ _ _ _ λj hj=>ah (by omega)
 obtain⟨T,qsF,t0,t1,t2,t3,t4,t5,t6,t7,t8⟩:=QX (aj Z.size) (Z.toList.drop (c+1)) (c+1) _ Q [(c,Y)] [] Y _ (by omega) (by rw[eP (by simp)]) e1;have hup:∀i,(rT P E L c v i).Up:=λi=>by
  unfold rT;split
  .exact abY v
  .exact ZV L i
 have m:=adA (tmF:=tmF) (vF:=vF) (v:=v) (n:=Z.size) (T:=T) hc t2;obtain⟨U,J⟩:∃U,U=T2 tmF vF v Y c Z.size T:=⟨_,rfl⟩;have lo:∀j,j<=c->U.tm j=tmF j∧U.h j=Y∧U.ps j=[]:=λj h=>by rw[J];exact ahi h
 have A:∀j,c<j->U.tm j=T.tm j∧U.h j=T.h j∧U.ps j=T.ps j:=λj h=>by rw[J];exact ahj h
 have D:∀j,j<c->U.v j=vF j∧U.kind j=2:=λj h=>by rw[J];exact ae6 h
 have vhi:∀j,c<j->U.v j=T.v j∧U.kind j=T.kind j:=λj h=>by rw[J];exact ae7 h
 obtain⟨Uvc,Ukc⟩:U.v c=v∧U.kind c=3:=by rw[J];exact aiA
 have Uob:U.ob=T.ob:=by rw[J];rfl
 have y:U.n=Z.size:=by rw[J];rfl
 rw[← J]at m;have Uh0:U.h 0=Y:=(lo 0 (bK _)).2.1;have Uhc:U.h (c+1)=Y:=(A (c+1) (cZ _)).2.1.trans t2;have Utc:U.tm c=tmF c:=(lo c (aj _)).1;have st:∀j,j<Z.size->Step E (rT P E L c v) x Z (Region.before Z) U qsF j:=λj hj=>by
  rcases Nat.lt_trichotomy j c with p|rfl|p
  .obtain⟨o',ho',htm,hw',hfr,hq⟩:=pre.step j p
   obtain⟨a1,a4,a6⟩:=lo j (by omega);obtain⟨a2,a5,a7⟩:=lo (j+1) (by omega);obtain⟨a3,a8⟩:=D j p;refine⟨o',ho',by rw[a1,a2,a3];exact htm,.inr (.inr (.inl ⟨a8,by rw[a1];exact hw',by rw[a1,a3,a4];exact hq,by rw[a4,a5],by rw[a6,a7],λhr=>?_⟩))⟩;rw[a1,a3];exact t5 _ (hQ j p o' ho' hr)
  .obtain⟨_,a4,a6⟩:=lo j (aj _)
   obtain⟨a2,_,a7⟩:=A (j+1) (cZ _);refine⟨o,ho,by rw[a2,t1,Uvc,Utc],.inr (.inr (.inr ⟨Ukc,by rw[Utc];exact hw,?_,by rw[a6,a7,t3];rfl⟩))⟩;rw[a6,a4,Utc,Uvc,Uhc];show vP E (rT P E L j v j) Y (fQ o.op E (tmF j) Y)=some (v,Y);rw[hl];unfold vP;simp only[hg];show(rT P E L j v j).call g args Y=_;unfold rT;rw[aC rfl];rfl
  .obtain⟨o',h1,B,h5⟩:=t4 j p hj
   obtain⟨a1,a4,a6⟩:=A j p;obtain⟨a2,a5,a7⟩:=A (j+1) (by omega);obtain⟨a3,a8⟩:=vhi j p;have a9:U.ob j=T.ob j:=by rw[Uob]
   refine⟨o',h1,by rw[a1,a2,a3];exact B,?_⟩;unfold X5 at h5 ⊢;rw[a1,a3,a4,a5,a6,a7,a8,a9];exact h5
 have X:Fix P true E (rT P E L c v) x Z U qsF c:=by
  refine⟨F,FF,λi hic=>?_,hup,R,(lo 0 (bK _)).2.2,Nat.le_of_eq y,λj hj=>st j (by rw[← y];exact hj),?_,λq hq=>?_⟩
  .unfold rT;rw[ah hic];exact ZW L i
  .rw[y,m];exact t6
  .rw[y,m,Uh0];exact t7 q hq
 have hD:=LW (listed:=listed) (i:=c) (by rw[hs];exact hc);have hDk:∀j,xE (Dl listed) c j=true->j<=c:=λj hj=>by
  rcases aT c j with h|h
  .rw[pq (by omega),hno j (by omega)]at hj;cases hj
  .exact h
 have hkc:∀j,j<=c->U.kind j≠1:=λj hj e=>by
  rcases kK hj with rfl|h
  .rw[Ukc]at e;cases e
  .rw[(D j h).2]at e;cases e
 have k:V=pJ (U.ps Z.size) (U.h Z.size)∧z=U.tm Z.size:=by
  obtain⟨b3,b2,b1⟩:=A Z.size hc;rw[b1,b2,b3];exact⟨(rU t8).2,(rU t8).1⟩
 have hnx4:V.nx=(U.h Z.size).nx:=by rw[k.1,zf]
 have r:∀a b,a<=b->b<=Z.size->(U.h a).nx<=(U.h b).nx:=λa b h1 B=>oh hup (T:=U) (λj hj=>st j (by rw[← y];exact hj)) b h1 (by rw[y];exact B);have I:Inv K O Z U (Dl (listed.setIfInBounds c true)) (c+1) O w:=by
  rw[hD];refine⟨S.toM λi o' hm _=>?_,⟨by rw[y];exact r 0 _ (bK _) (aj _),λ_ _=>rfl⟩,λj hj _=>?_,λl hl hk=>?_,hcl.add hi,λf hp=>aX hp.2.2.1 (hkc f (hDk f hp.2.1)),by rw[y];exact hc⟩
  .rcases hm with h1|⟨f,h1,_⟩
   .rw[Uhc]at h1;exact h1
   .exact aX h1.2.2.1 (hkc f (hDk f h1.2.1))
  .rw[y]at hj
   have h1:=r 0 j (bK _) (iD hj);have B:=r (j+1) Z.size hj (aj _);rw[Uh0]at h1;rw[← hnx4]at B;exact hf.sub h1 B
  .rcases Nat.lt_trichotomy l c with h|rfl|h
   .rw[(D l h).2]at hk;cases hk
   .exact⟨λ_=>cZ _,λ_=>nM _ _⟩
   .exact⟨λhd=>by have:=hDk l hd;omega,λhd=>by omega⟩
 have H0:iC O x (tH x Z U (Dl (listed.setIfInBounds c true)) Z.size) M Z (Region.linearise.go .any Z u t (listed.setIfInBounds c true) []) N fr:=by
  refine iC.tmc _ H λs=>?_;rw[hD,Ou R hcl hi ho s,Uvc];rw[U0 (T:=U) (T':=Iu x Z Y c tmF vF) ((lo 0 (bK _)).1) Z.size λj hj hd=>?_];rcases aT j c with h|h
  .exact(D j h).1
  .rw[hno j h]at hd;cases hd
 have W:=XF (cs:=cs) X hP (λi h1 B=>by rw[y]at h1;omega) u t (listed.setIfInBounds c true) (c+1) O w fr (by simp[hs]) hlf (λi h1=>by
  rw[y]at h1;rw[hD,pq (by omega)];exact hno i (by omega)) (λi _ B e=>by
  rw[e,hD,nM]at B;cases B) I H0
 rw[Uhc]at W;refine W.mono ?_
 rintro d g w' ⟨rest,hl',ι',C,rfl,g2,g3,g4,rfl⟩
 rw[y]at hl' g2 g3 g4;rw[SG hl']at g4;rw[← k.1]at g2 g3;rw[← k.2]at g4;rw[Uh0]at g2;refine⟨ι',C,rfl,g2,g3,g4,?_⟩;rw[y,← k.1]
end
end
section
open Go.Conc (G)
variable{tm:Tr AV}{tmps:Array Value}{ι ι':Nm}
structure adF(P:Program)(E:Env)(x:AX)(tm:Tr AV)(ops:Array Oper)(k:List AI)(c:Nat)(o:Oper)(vs:List AV)(g:FuncId)(θ:Pm)(n0:Nat)(old':Old)(v:AV)(m':Mm)(N'':Nat)(R:qC)
 (θ':Pm)(h3 h4:AH)(v3:AV)(args3:List AV)(tm':Tr AV)(as:List DA)(obs:List Prop)(l':List (Nat×AO))(N3:Nat):Prop where
 same:∀i,i<n0->θ'.to i=θ.to i
 val:v=v3.ren θ'.to
 pre:All (zX (E.wo old') x ops h3 tm (ops.toList.take c) vs)
 call:fQ o.op (E.wo old') (ng x tm (ops.toList.take c) vs) h3=some (.call g args3)
 post:y8 P (E.wo old') x (Region.before ops) ops h3 as (ops.toList.drop (c+1)) (c+1) (fin x o.dst v3 (ng x tm (ops.toList.take c) vs)) (Ku x 0 tm (ops.toList.take c) vs []) [(c,h3)] [] h3=some (tm',h4,obs)
 obs:All obs
 lift:Lift θ' m' l' N'' N3 h3 h4
 go:dL P E old' ((⟨x,tm',k,[],false⟩:AF).ren θ'.to) (dn m' l') N3 R
section
variable{P:Program}{E:Env}{Z:Old}{m:Mm}{N:Nat}{R Y:qC}
theorem RT.same{nt:Nat}(h:RT ι nt tm tmps)(H:∀t a,tm.get t=some a->∀u,RV ι a u->RV ι' a u):RT ι' nt tm tmps:=⟨h.1,λt a e=>H t a e _ (h.2 t a e)⟩
theorem Sv{n:Nat}:∀{l:List AV},AV.fG n l=true->∀{a:AV},a∈l->a.low n=true
 |b::l,h,a,c=>by
  have h:(AV.low n b&&AV.fG n l)=true:=h;rw[aF]at h;rcases ay.1 c with rfl|c
  .exact h.1
  .exact Sv h.2 c
theorem dL.TN(F:∀Z,Fits P (E.wo Z))(FF:∀Z,eU P (E.wo Z)){θ:Pm}{x:AX}{tm:Tr AV}{ops:Array Oper}{k k0:List AI}{h0:AH}{c:Nat}{o:Oper}{vs:List AV}{g:FuncId}{args:List AV}{cd:Code}{nt:Nat}{rs:List ResultVar}{ex:EX}
 (hx:x.round=none)(hk:yL k=true)(hreg:wS ops.toList (Region.before ops) ops=true)(hc:c<ops.size)(ho:ops[c]? =some o)(hbar:∀i,c<i->i<ops.size->Bf ops i c)(hvs:vs.length=c)
 (hpre:All (zX (E.wo Z) x ops h0 tm (ops.toList.take c) vs))(hw:dU o ops (ng x tm (ops.toList.take c) vs)=some true)(hl:fQ o.op (E.wo Z) (ng x tm (ops.toList.take c) vs) h0=some (.call g args))(hg:E.ft.get g=some ⟨some cd,nt,rs,ex⟩)
 (hm:∀e∈ents h0.tr,m (θ.to e.1)=e.2.ren θ.to)(hO:N<=OLD)(hnx:Nat.ble h0.nx OLD=true)(hdf:h0.df=0)(hlt:∀t a,tm.get t=some a->a.low h0.nx=true)(hlv:AV.fG h0.nx vs=true)
 {f:AF}(hs:iZ (E.wo Z) ⟨x,tm,k0,[],false⟩ h0=some (.drawn x tm ops k [] h0))(hk0:yL k0=true)(e:f=(⟨x,tm,k0,[],false⟩:AF).ren θ.to)
 (C:CallM P E Z g (AV.jM θ.to args) m N Y)
 (B:∀r v m' N'',Old.le Z r->Y r v m' N''->∃y h3 h4 v3 Q U as obs l' N3,adF P E x tm ops k c o vs g θ h0.nx r v m' N'' R y h3 h4 v3 Q U as obs l' N3):dL P E Z f m N R:=λK ι w fr cc q hP S RR hf hkn=>by
 subst e;have hR:=Fb hreg;have hlist:∀i,i<c->vs.getD i .any∈vs:=λi hi=>by
  rw[List.getD_eq_getElem?_getD,aI (by omega)];exact List.getElem_mem _
 let tmF:Nat->Tr AV:=λj=>ng x tm (ops.toList.take j) (vs.take j);let vF:Nat->AV:=λj=>vs.getD j .any;have O:tmF c=ng x tm (ops.toList.take c) vs:=by show ng x tm (ops.toList.take c) (vs.take c)=_;rw[eP (l:=vs) (by omega)]
 have V:∀{E':Env} {h:AH},All (zX E' x ops h tm (ops.toList.take c) vs)->Pre E' x ops h c tmF vF:=λ{E' h} H=>⟨λj hj=>by
  obtain⟨o',a1,a2,a3,a4,a5,_⟩:=Z7 (E:=E') (h:=h) (tm0:=tm) (iD hc) hvs (ops.toList.take c) 0 vs [] rfl rfl (bK _) (All.mem H) j (bK _) hj;exact⟨o',a1,a2,a3,a4,a5⟩⟩
 obtain⟨K0,hsub,hP0,S0,hfree,after⟩:=zo (Lift.ro hm hO hnx hdf) hP S hf;have R0:RF (λi=>ι (θ.to i)) ⟨x,tm,k0,[],false⟩ fr:=RR.JU (n:=OLD) (λi p _ hp=>hp) (show AF.low OLD ⟨x,tm,k0,[],false⟩from⟨yY _,hk0,rfl,hx⟩);have pre1:=V hpre;have W1:Walk P true K0 (λd g' w'=>∃k' A t listed I J,g'=G (Frame.enter P g J .normal) (I::cc::q)∧listed.size=ops.size∧left' ops.size (listed.setIfInBounds c true)<=A∧(∀i,c<=i->Dl listed i=false)∧Closed ops (Dl listed)∧Ready ops (Dl listed) c∧Sat K0 (λi=>ι (θ.to i)) h0 w'∧dS (λi=>ι (θ.to i)) args J.toList∧
  pG (λi=>ι (θ.to i)) x (tH x ops (Iu x ops h0 c tmF vF) (Dl listed) ops.size) [] ops c (Region.linearise.go .any ops A t (listed.setIfInBounds c true) []) k' I∧Gy (λi=>ι (θ.to i)) k k'∧d=h0.df) h0.df (G fr (cc::q)) w:=by
  refine Walk.of rfl λX hr₁=>?_;have S₁:=S0.rely hr₁;have ok₁:yg P true K0 (λi=>ι (θ.to i)) h0 X fr (cc::q) _:=step_ok hP0 (F Z) (FF Z) S₁ R0 hs;obtain⟨_,t,d,k',k1,k2,k3⟩:=ok₁;refine⟨_,_,#[],k1,iG.drawn X d,?_⟩;have hDl:Dl (Array.replicate ops.size false)=λ_=>false:=by
   funext j;unfold Dl;rw[bg,Array.getElem?_replicate];split<;>rfl
  have W:=ac5 (K:=K0) (x:=x) (ops:=ops) (h:=h0) (ds:=[]) (k':=k') (cs:=cc::q) (c:=c) (tmF:=tmF) (vF:=vF) (F Z) hP0 hR hc hbar pre1 ops.size t (Array.replicate ops.size false) { X with drawn:=d } _ (by simp) (by
   unfold left';exact aS (List.length_filter_le _ _) (by simp)) (λi _=>by rw[hDl]) (λi hi=>by rw[hDl]at hi;cases hi) (S₁.drawn d) (iC.tmc _ k3 λs=>by
    rw[hDl];have:∀n,tH x ops (Iu x ops h0 c tmF vF) (λ_=>false) n=tm:=by
     intro n;induction n with
     |zero=>
      show(if 0<=c then tmF 0 else fin x (rJ ops c) (vF c) (tmF c))=tm;rw[aC (bK _)];show ng x tm (ops.toList.take 0) (vs.take 0)=tm;cases vs<;>rfl
     |succ n ih=>exact ih
    rw[this])
  refine W.bind ?_
  rintro d2 g2 w2 ⟨A,t2,listed,I,rfl,a1,a2,a3,a4,a5,a6,a7,rfl⟩
  refine Walk.of rfl λw₃ hr₃=>?_;have S₃:=a6.rely hr₃;have hlook:∀t∈o.looksAt ops,(tH x ops (Iu x ops h0 c tmF vF) (Dl listed) ops.size).get t=(tmF c).get t:=λt ht=>by
   have htmi:(Iu x ops h0 c tmF vF).tm c=tmF c:=aC (aj _);rw[← htmi];exact Hz hR (UD pre1) a4 a5 (cZ _) ho ht
  have hwant:dU o ops (tH x ops (Iu x ops h0 c tmF vF) (Dl listed) ops.size)=some true:=by rw[Bz hlook,O];exact hw
  have hl2:fQ o.op (E.wo Z) (tH x ops (Iu x ops h0 c tmF vF) (Dl listed) ops.size) h0=some (.call g args):=by rw[Es (Et hlook),O];exact hl
  obtain⟨J,h1,h2⟩:=Dv (main:=true) (cs:=cc::q) hP0 (F Z) (FF Z) S₃ a7 ho (jY a7.tm hwant) hl2 hg;exact⟨_,_,#[],h2,iG.refl w₃,.stop λw₂ hr₂=>⟨k',A,t2,listed,I,J,rfl,a1,a2,a3,a4,a5,S₃.rely hr₂,h1,a7,k2,rfl⟩⟩
 rw[hdf]at W1;refine(W1.frame hsub (Kept.refl _ _ _) (Stop:=λd g' w'=>Kept K K0 w w'∧∃k' A t listed I J,g'=G (Frame.enter P g J .normal) (I::cc::q)∧listed.size=ops.size∧left' ops.size (listed.setIfInBounds c true)<=A∧(∀i,c<=i->Dl listed i=false)∧Closed ops (Dl listed)∧Ready ops (Dl listed) c∧Sat K0 (λi=>ι (θ.to i)) h0 w'∧dS (λi=>ι (θ.to i)) args J.toList∧
  pG (λi=>ι (θ.to i)) x (tH x ops (Iu x ops h0 c tmF vF) (Dl listed) ops.size) [] ops c (Region.linearise.go .any ops A t (listed.setIfInBounds c true) []) k' I∧Gy (λi=>ι (θ.to i)) k k'∧d=0) (λ_ _ _ a b=>⟨a,b⟩)).bind ?_
 rintro d g2 w' ⟨hkept,k',A,t2,listed,I,J,rfl,a1,a2,a3,a4,a5,a6,a7,a8,a9,rfl⟩
 obtain⟨S1,hE,hF⟩:=after _ w' hkept (Grow.refl _ _) a6;rw[Jt hm]at S1;have hU:UC θ.to (λi=>ι (θ.to i)) (λk=>ι (θ.to (θ.inv k))):=λi p hi=>by show ι (θ.to (θ.inv (θ.to i)))=some p;rw[θ.li];exact hi
 refine(C K _ w' J I (cc::q) hP S1 (a7.ren hU) hF).bind ?_
 rintro d3 g3 w3 ⟨K',r,L,v,u,m',N'',rfl,z,p',lo,hE2,S2,rv,hF2,r1,rfl⟩
 obtain⟨y,h3,h4,v3,Q,U,as,obs,l',N3,H⟩:=B r v m' N'' lo r1;obtain⟨K1,hsub1,hP1,S3,hfree3,after3⟩:=zo H.lift p' S2 hF2;have rv3:RV (λi=>L (y.to i)) v3 u:=RV.iY (n:=OLD) (ι:=L) (ρ:=y.to) (λi p _ hp=>hp) (AV.wu _) (by rw[← H.val];exact rv);have hnO:h0.nx<=OLD:=aJ hnx;have key:∀(a:AV) (u':Value),a.low h0.nx=true->RV (λi=>ι (θ.to i)) a u'->RV (λi=>L (y.to i)) a u':=λa u' hl' h=>by
  refine RV.iY (n:=h0.nx) (ρ:=λi=>i) (ι:=λi=>ι (θ.to i)) (ι0:=λi=>L (y.to i)) (λi p hi hp=>?_) hl' (by rw[AV.jI];exact h);have hp:ι (θ.to i)=some p:=hp;have h1:L (θ.to i)=some p:=hE2 (θ.to i) p (by show ι (θ.to (θ.inv (θ.to i)))=some p;rw[θ.li];exact hp);show L (y.to i)=some p;rcases hi with hi|hi
  .rw[H.same i hi];exact h1
  .rw[θ.old i hi]at h1;rw[y.old i hi];exact h1
 have hlowD:∀t a,(tH x ops (Iu x ops h0 c tmF vF) (Dl listed) ops.size).get t=some a->a.low h0.nx=true:=by
  refine Wv hR (λt a e=>?_) rfl ops.size (λj _ hj=>?_)
  .have e:(if 0<=c then tmF 0 else fin x (rJ ops c) (vF c) (tmF c)).get t=some a:=e
   rw[aC (bK _)]at e;refine hlt t a ?_;have e:(ng x tm (ops.toList.take 0) (vs.take 0)).get t=some a:=e;cases vs<;>exact e
  .have:j<c:=by
    rcases aT j c with h|h
    .exact h
    .rw[a3 j h]at hj;cases hj
   exact Sv hlv (hlist j this)
 have tD:∀D,tH x ops (Iu x ops h3 c tmF vF) D ops.size=tH x ops (Iu x ops h0 c tmF vF) D ops.size:=λD=>U0 (T:=Iu x ops h3 c tmF vF) (T':=Iu x ops h0 c tmF vF) rfl ops.size λ_ _ _=>rfl;have HA:pG (λi=>L (y.to i)) x (tH x ops (Iu x ops h3 c tmF vF) (Dl listed) ops.size) [] ops c (Region.linearise.go .any ops A t2 (listed.setIfInBounds c true) []) k' I:=by
  rw[tD];refine⟨a8.fn,a8.tm.same λt a e u' h=>key a u' (hlowD t a e) h,a8.todo,?_,a8.mode,a8.kind,?_⟩
  .exact a8.ds
  .have:=a8.round
   rw[hx]at this ⊢;exact this
 have HR:=HA.finish ho (Ext.refl _) rv3;have preQ:∀j,j<c->∀o',ops[j]? =some o'->kG o'.op=true->(⟨o'.op,j,tmF j,vF j⟩:DQ)∈Ku x 0 tm (ops.toList.take c) vs []:=λj hj o' ho' hr=>by
  obtain⟨o2,b1,_,_,_,_,b6⟩:=Z7 (E:=E.wo r) (h:=h3) (tm0:=tm) (iD hc) hvs (ops.toList.take c) 0 vs [] rfl rfl (bK _) (All.mem H.pre) j (bK _) hj;rw[ho']at b1;cases b1;have:=b6 hr;cases vs<;>exact this
 have hpost:=H.post;have hcall:=H.call;rw[← O]at hpost hcall;have W3:=YQ (K:=K1) (cs:=cc::q) (F r) (FF r) hP1 hreg hc ho (V H.pre) preQ (by rw[O];exact hw) hcall (show(E.wo r).ft.get g=_ from hg) hpost H.obs hfree3 a1 a2 a3 a4 a5 S3 HR;rw[H.lift.df]at W3;have W4:=(W3.frame hsub1 (Kept.refl _ _ _) (Stop:=λd g w'=>Kept K' K1 w3 w'∧∃ι' fr',g=G fr' (cc::q)∧Grow (λi=>L (y.to i)) ι' h3.nx h4.nx∧Sat K1 ι' h4 w'∧iC ι' x U [] ops [] k' fr'∧d=h4.df) (λ_ _ _ a b=>⟨a,b⟩));have W5:Walk P true K' (AtM P E r K' L cc q R) 0 (G (I.finish u) (cc::q)) w3:=by
  refine W4.bind ?_
  rintro d g5 w5 ⟨hkept5,ι5,fr5,rfl,hg5,hS5,M,rfl⟩
  obtain⟨S6,hE6,hF6⟩:=after3 ι5 w5 hkept5 hg5 hS5;rw[H.lift.df'];refine Walk.of rfl λw₆ hr₆=>?_;have ht:=M.todo;have hmo:=M.mode;refine⟨G { fr5 with todo:=k' } (cc::q),w₆,#[],by simp[G,stepG,hmo,stepG.exec,ht],iG.refl w₆,?_⟩;have hU6:UC y.to ι5 (λk=>ι5 (y.inv k)):=λi p hi=>by show ι5 (y.inv (y.to i))=some p;rw[y.li];exact hi
  have R6:RF ι5 ⟨x,U,k,[],false⟩ { fr5 with todo:=k' }:=⟨M.fn,M.tm,rG hk a9,M.ds,by simpa using M.mode,M.kind,M.round⟩;have R7:=R6.acf hU6 (show AF.plain ⟨x,U,k,[],false⟩from⟨hk,rfl,hx⟩);have hkind:({ fr5 with todo:=k' }:Frame).kind= .normal:=by
   have e1:=M.kind;have e2:=a8.kind;have e3:=RR.kind;show fr5.kind= .normal;rw[hkn]at e3;have e3:CallKind.normal=if x.deferred then .deferred else .normal:=e3;rw[e1,← e3]
  exact(H.go K' _ w₆ _ cc q p' (S6.rely hr₆) R7 hF6 hkind).mono λ_ _ _ HH=>AtM.up (Fz.refl K') (Old.le_refl _) hE6 HH
 exact(W5.fz z).mono λ_ _ _ HH=>AtM.up z lo (λi p h=>hE2 i p (by show ι (θ.to (θ.inv i))=some p;rw[θ.ri];exact h)) HH
end
end
section
open Go.Conc (G)
variable{h:AH}{i:Nat}{o:AO}
mutual
theorem RV.back{ι ι':Nm}(g:Ext ι ι'):∀{a:AV} {v k:Value},RV ι a v->RV ι' a k->RV ι a k
 | .any,_,_,_,_=>by unfold RV;trivial
 | .one,_,_,_,h| .bool _,_,_,_,h| .int _ _,_,_,_,h| .str _,_,_,_,h| .pO,_,_,_,h| .aQ,_,_,_,h| .emp,_,_,_,h| .pF,_,_,_,h| .um,_,_,_,h| .uj,_,_,_,h| .aO _ _ _,_,_,_,h=>by
   unfold RV at h ⊢;exact h
 | .ptr i o,_,_,h0,h=>by
   unfold RV at h0 h ⊢;obtain⟨p,hi,_⟩:=h0;obtain⟨q,d,e⟩:=h;have:=g _ _ hi;rw[this]at d;cases d;exact⟨p,hi,e⟩
 | .sl i o l c,_,_,h0,h=>by
   unfold RV at h0 h ⊢;obtain⟨p,hi,_⟩:=h0;obtain⟨q,d,e⟩:=h;have:=g _ _ hi;rw[this]at d;cases d;exact⟨p,hi,e⟩
 | .map i,_,_,h0,h=>by
   unfold RV at h0 h ⊢;obtain⟨p,hi,_⟩:=h0;obtain⟨q,d,e⟩:=h;have:=g _ _ hi;rw[this]at d;cases d;exact⟨p,hi,e⟩
 | .yield i,_,_,h0,h=>by
   unfold RV at h0 h ⊢;obtain⟨p,hi,_⟩:=h0;obtain⟨q,d,e⟩:=h;have:=g _ _ hi;rw[this]at d;cases d;exact⟨p,hi,e⟩
 | .fn f a b,_,_,h0,h=>by
   unfold RV at h0 h ⊢;obtain⟨n,r,_,j,g2⟩:=h0;obtain⟨as,bs,e,h1,s⟩:=h;exact⟨as,bs,e,dS.back g j h1,dS.back g g2 s⟩
 | .iface t a,_,_,h0,h=>by
   unfold RV at h0 h ⊢;obtain⟨m,_,j⟩:=h0;obtain⟨x,e,h1⟩:=h;exact⟨x,e,RV.back g j h1⟩
 | .agg l,_,_,h0,h=>by
   unfold RV at h0 h ⊢;obtain⟨m,_,j⟩:=h0;obtain⟨x,e,h1⟩:=h;exact⟨x,e,dS.back g j h1⟩
 | .gI l,_,_,h0,h=>by
   unfold RV at h0 h ⊢;obtain⟨m,_,j⟩:=h0;obtain⟨x,e,h1⟩:=h;exact⟨x,e,dS.back g j h1⟩
theorem dS.back{ι ι':Nm}(c:Ext ι ι'):∀{l:List AV} {vs b:List Value},dS ι l vs->dS ι' l b->dS ι l b
 |[],_,_,_,h=>by unfold dS at h ⊢;exact h
 |a::l,_,_,h0,h=>by
  unfold dS at h0 h ⊢;obtain⟨v0,g,_,d,g2⟩:=h0;obtain⟨v,r,e,h1,f⟩:=h;exact⟨v,r,e,RV.back c d h1,dS.back c g2 f⟩
end
def isCells:AO->Bool
 | .cells _ _ _ _=>true
 | .dead=>true
 |_=>false
theorem RO.back{P:Program}{ι ι':Nm}{cap:Nat}(f:Ext ι ι'){o:AO}{ob a:Obj}(i:isCells o=true)(h0:RO P ι cap o ob)(h:RO P ι' cap o a):RO P ι cap o a:=by
 cases o with
 |dead=>trivial
 |cells vs el g fz=>
  obtain⟨_,_,_,_,⟨_,_,_,b⟩,_⟩:=h0;obtain⟨c,lo,d,e,⟨l1,l2,e2,j⟩,h1,k,l⟩:=h;exact⟨c,lo,d,e,⟨l1,l2,e2,b.back f j⟩,h1,k,l⟩
 |_=>cases i
noncomputable def FN(h:AH):Mm:=λi=>(h.tr.get i).getD .dead
theorem NP(e:h.tr.get i=some o):FN h i=o:=by unfold FN;rw[e];rfl
theorem DoesC.ofM{P:Program}{E:Env}{old:Old}{g:FuncId}{args:List AV}{h:AH}{v0:AV}(hp:posB (λi=>Nat.blt i h.nx) h.tr=true)(L:jG h.nx h.tr=true)(M:(ents h.tr).all (λe=>isCells e.2)=true)(m:h.df=0)(top:Nat.ble h.nx OLD=true)(N:AV.fG h.nx args=true)(O:v0.low 0=true)
 (C:CallM P E old g args (FN h) h.nx (λ_ v B _=>v=v0∧∀i o,h.tr.get i=some o->B i=o)):DoesC P (E.wo old) g args h v0 h:=by
 have Q:∀i o,h.tr.get i=some o->o.live->i<h.nx:=λi o e _=>aJ (qJ hp e);refine⟨aj _,λK ι w vs c n D S f R T=>?_⟩;have F:=S.cap Q L;have t:Az h.nx (λi=>i) ι (nK h.nx ι):=λi p hi hp=>by unfold nK;rw[aC hi];exact hp
 have U:dS (nK h.nx ι) args vs.toList:=dS.iY t N (by rw[AV.qw];exact f);have V:Free (nK h.nx ι) h.nx OLD:=λi a b=>by unfold nK;rw[ah (by omega)]
 have r:Ext (nK h.nx ι) ι:=λi p e=>by
  unfold nK at e;split at e
  .exact e
  .cases e
 rw[m];have W:=C K _ w vs c n D (F.toM λi o e l=>by
  unfold FN at e;cases G:h.tr.get i with
  |none=>rw[G]at e;subst e;exact l.elim
  |some q=>rw[G]at e;exact gu some e) U V
 refine W.frame (⟨rfl,rfl,rfl,λ_ h=>h,λh=>h⟩:Sub K K) (Kept.refl _ _ _) ?_
 rintro d g' w' j ⟨K',H,ι',v,u,B,N',rfl,z,X,l,x,s,rv,fr,⟨rfl,Y⟩,rfl⟩
 refine⟨ι,u,rfl,Grow.refl _ _,⟨λi o e I=>?_,S.inj,aS S.lo j.size,λb k=>s.bs b (z.fz b k),λb k=>(s.old b (z.fz b k)).trans (z.heap b k),s.os.trans z.os,s.tape.trans z.tape,s.output.trans z.output,S.kV⟩,(RV.vC (s.kV (X.pk rfl)) O rv).mono (S.kV (D.pk rfl)),m.symm⟩;obtain⟨p,ob,e1,e2,e3,e4,Z⟩:=F.objs i o e I;obtain⟨q,y,J,f2,f3,f4,f5⟩:=s.objs i o (Y i o e) I;rw[x i p e1]at J;cases J;have A:isCells o=true:=by
  have:=fM.1 M _ (BM e);exact this
 exact⟨p,y,r i p e1,λk=>f2 (z.fz _ k),z.own _ f3,f4,(Z.back x A (by rw[← z.P];exact f5)).mono r⟩
theorem DoesC.ofX{P:Program}{E:Env}{old:Old}{g:FuncId}{args:List AV}{v0:AV}(C:jV P E old g args (λ_ w=>w=v0))(a:AV.fG 0 args=true)(b:v0.low 0=true):DoesC P (E.wo old) g args eH v0 eH:=
 DoesC.ofM (h:=eH) rfl rfl rfl rfl rfl a b (CallM.ofX C a λo w _ q=>⟨q,λi o e=>NP e⟩)
end
section
open Go.Conc (G)
variable{ι:Nm}
theorem Dq{N i:Nat}{p:Nat×Nat}(b:Free ι N OLD)(h:ι i=some p):(Nat.blt i N||Nat.ble OLD i)=true:=by
 rcases aT i N with h1|h1
 .rw[show Nat.blt i N=true from bF h1];rfl
 .rcases aT i OLD with a|a
  .rw[b i h1 a]at h;cases h
  .rw[show Nat.ble OLD i=true from bF a,jX]
mutual
theorem RV.Pj{ι:Nm}{N:Nat}(d:Free ι N OLD):∀{a:AV} {v:Value},RV ι a v->a.low N=true
 | .any,_,_| .one,_,_| .bool _,_,_| .int _ _,_,_| .str _,_,_| .pO,_,_| .aQ,_,_| .emp,_,_| .pF,_,_| .um,_,_| .uj,_,_| .aO _ _ _,_,_=>rfl
 | .ptr i o,_,h=>by unfold RV at h;obtain⟨p,hi,_⟩:=h;exact Dq d hi
 | .sl i o l c,_,h=>by unfold RV at h;obtain⟨p,hi,_⟩:=h;exact Dq d hi
 | .map i,_,h=>by unfold RV at h;obtain⟨p,hi,_⟩:=h;exact Dq d hi
 | .yield i,_,h=>by unfold RV at h;obtain⟨p,hi,_⟩:=h;exact Dq d hi
 | .fn f a b,_,h=>by
   unfold RV at h;obtain⟨as,bs,_,h1,e⟩:=h;show(AV.fG N a&&AV.fG N b)=true;rw[dS.Pj d h1,dS.Pj d e];rfl
 | .iface t a,_,h=>by unfold RV at h;obtain⟨x,_,h1⟩:=h;exact RV.Pj d (a:=a) h1
 | .agg l,_,h=>by unfold RV at h;obtain⟨x,_,h1⟩:=h;exact dS.Pj d (l:=l) h1
 | .gI l,_,h=>by unfold RV at h;obtain⟨x,_,h1⟩:=h;exact dS.Pj d (l:=l) h1
theorem dS.Pj{ι:Nm}{N:Nat}(b:Free ι N OLD):∀{l:List AV} {vs:List Value},dS ι l vs->AV.fG N l=true
 |[],_,_=>rfl
 |a::l,_,h=>by
  unfold dS at h;obtain⟨v,r,_,h1,c⟩:=h;show(AV.low N a&&AV.fG N l)=true;rw[RV.Pj b h1,dS.Pj b c];rfl
end
section
variable{P:Program}{E:Env}{Z:Old}{m:Mm}{N:Nat}{R R1:qC}
theorem CallM.cap{g:FuncId}{args:List AV}(A:CallM P E Z g args m N R1)(Q:∀k,isCells (m k)=true)
 (h:∀b v y N',Old.le Z b->R1 b v y N'->∃m2,R b v m2 N∧v.low N=true∧∀k,(m2 k).live->y k=m2 k∧(m2 k=m k∨(k<N∧(m2 k).low N=true))):CallM P E Z g args m N R:=by
 intro K ι w vs c t T S U B;refine(A K ι w vs c t T S U B).mono ?_
 rintro d g w' ⟨V,I,ι',v,u,y,N',rfl,z,W,l,x,s,rv,fr,r1,rfl⟩
 obtain⟨m2,r2,F,C⟩:=h I v y N' l r1;have X:Ext ι (nK N ι'):=λi p e=>by
  have h1:=Dq B e;rw[iU]at h1;have n:i<N∨OLD<=i:=h1.imp (λh=>aJ h) (λh=>aJ h);unfold nK;rw[aC n];exact x i p e
 have J:Az N (λi=>i) ι' (nK N ι'):=λi p hi hp=>by unfold nK;rw[aC hi];exact hp
 have a:∀k,(m2 k).live->(k<N∨OLD<=k)∧(m2 k).low N=true:=λk f=>by
  obtain⟨_,h1|h1⟩:=C k f
  .rw[h1]at f ⊢
   obtain⟨p,ob,e1,e2,L,M,D⟩:=S.objs k _ rfl f;have n:=Dq B e1;rw[iU]at n;refine⟨n.imp (λh=>aJ h) (λh=>aJ h),?_⟩;have O:=Q k;cases r:m k with
   |dead=>rw[r]at f;exact f.elim
   |cells vs el g z=>
    rw[r]at D;obtain⟨_,_,_,_,⟨_,_,_,F⟩,_⟩:=D;exact dS.Pj B F
   |_=>rw[r]at O;cases O
  .exact⟨.inl h1.1,h1.2⟩
 refine⟨V,I,nK N ι',v,u,m2,N,rfl,z,W,l,X,⟨λi o e f=>?_,λi j o o2 p q e1 e2 l1 l2 hp G H=>?_,s.lo,s.bs,s.old,s.os,s.tape,s.output,λY i p hi=>?_⟩,RV.iY J F (by rw[AV.jI];exact rv),λi h1 n=>by unfold nK;rw[ah (by omega)],r2,rfl⟩
 .subst e
  obtain⟨h1,n⟩:=a i f;obtain⟨p,ob,e1,e2,L,M,D⟩:=s.objs i (m2 i) (C i f).1 f;exact⟨p,ob,by unfold nK;rw[aC h1];exact e1,e2,L,M,RO.iY J n (by rw[AO.jI];exact D)⟩
 .subst e1;subst e2
  unfold nK at hp G;rw[aC (a i l1).1]at hp;rw[aC (a j l2).1]at G;exact s.inj i j _ _ p q (C i l1).1 (C j l2).1 l1 l2 hp G H
 .have:=s.kV Y i p hi
  unfold nK;rw[aC (.inr (OX hi))];exact this
end
end
section
variable{P:Program}{E:Env}{Z:Old}{Q:Old->AV->Prop}
end
section
variable{E:Env}{t e:TypeId}{z:Nat}
end
section
variable{E:Env}{h:AH}{Y Z e:TypeId}{sz:Nat}
theorem Ui(d:Gl E Y Z=some (e,sz))(a:E.peek=true){b o c:Nat}:
 gX E h .append [.aQ,.aO (some (b,o)) 0 c] [Y,Z]=some (.val .aQ h):=by
 show(l7 E h Y Z .aQ (nP E (.aO (some (b,o)) 0 c))).map _=_;rw[oD d (Bd (sz:=sz) (cells:=[]) a (by rw[jl];rfl)) (bK _)];rfl
end
section
open Go.Conc (G)
variable{args:List AV}{g:FuncId}
section
variable{P:Program}{E:Env}{Y:Old}{f X:AF}{h Z:AH}{R:Old->AF->AH->Prop}{V:qC}
theorem jo.agY(F:Fits P (E.wo Y))(FF:eU P (E.wo Y)){d:Option Tmp}(e:iZ (E.wo Y) f h=some (.call X d g args Z))(G:AV.fG Z.nx args=true)(hh:jG Z.nx Z.tr=true)(hp0:posB (λi=>Nat.blt i Z.nx) Z.tr=true)(hdf:Z.df=0)(O:Z.nx<=OLD)
 (C:CallM P E Y g args (FN Z) Z.nx V)
 (B:∀c v Q N',Old.le Y c->V c v Q N'->v.low 0=true∧∃k:AH,k.nx=Z.nx∧k.df=0∧(∀i o,k.tr.get i=some o->o.live->Q i=o∧o.low 0=true∧∃T,Z.tr.get i=some T∧T.live)∧jo P E c (yJ (X,d) v) k R):jo P E Y f h R:=by
 have U:X.x=f.x:=yI e;intro K ι w fr cs hP S RR hf;refine Walk.of rfl λH m=>?_;have I:=S.rely m;have r:yg P true K ι h H fr cs _:=step_ok hP F FF I RR e;obtain⟨ι',t,vs,w',es,k1,k2,k3,k4,⟨k5,k5'⟩,k6,k7⟩:=r (hf.sub (aj _) O);refine⟨_,w',es,k1,k6,?_⟩;rw[k7,hdf];have hpk:=hP.pk rfl;have hE:=k3.kV hpk;have hn:∀i o,Z.tr.get i=some o->o.live->i<Z.nx:=λi o e _=>aJ (qJ hp0 e);have S0:=k3.cap hn hh;have hL0:Az Z.nx (λi=>i) ι' (nK Z.nx ι'):=λi p hi hp=>by unfold nK;rw[aC hi];exact hp
 have a0:dS (nK Z.nx ι') args vs.toList:=dS.iY hL0 G (by rw[AV.qw];exact k4);have F0:Free (nK Z.nx ι') Z.nx OLD:=λi a b=>by unfold nK;rw[ah (by omega)]
 have hE0:Ext (nK Z.nx ι') ι':=λi p e=>by
  unfold nK at e;split at e
  .exact e
  .cases e
 have S0':Ba K (nK Z.nx ι') (FN Z) w':=S0.toM λi o e l=>by
  unfold FN at e;cases U:Z.tr.get i with
  |none=>rw[U]at e;subst e;exact l.elim
  |some q=>rw[U]at e;exact gu some e
 refine(C K _ w' vs t cs hP S0' a0 F0).bind ?_
 rintro d' g' J ⟨K',c,y,v,u,Q,N',rfl,z,p',l,x,s,rv,fr2,r1,rfl⟩
 obtain⟨hv,k,e1,e2,hm,D⟩:=B c v Q N' l r1;have L:=s.kV (p'.pk rfl);have SK:Sat K' ι' k J:=by
  have key:∀i o,k.tr.get i=some o->o.live->∃p,ι' i=some p∧y i=some p:=λi o e M=>by
   obtain⟨_,_,T,q1,q2⟩:=hm i o e M;obtain⟨p,ob,A,_⟩:=S0.objs i T q1 q2;exact⟨p,hE0 i p A,x i p A⟩
  refine⟨λi o e M=>?_,λi j o o' p q a1 a2 l1 l2 hp hq hpq=>?_,s.lo,s.bs,s.old,s.os,s.tape,s.output,λ_=>hE⟩
  .obtain⟨q0,q1,_⟩:=hm i o e M
   obtain⟨p,A,g2⟩:=key i o e M;obtain⟨p',ob,b1,b2,b3,b4,b5⟩:=s.objs i o q0 M;rw[g2]at b1;cases b1;exact⟨p,ob,A,b2,b3,b4,RO.iY (n:=0) (ρ:=λi=>i) (ι:=y) (ι0:=ι') (λj p hj hp=>by
    have hj:OLD<=j:=hj.elim (λh=>aX h (gV _)) (λh=>h);have hp:y j=some p:=hp;have O:dR j=some (j - OLD,0):=by unfold dR;rw[aC hj]
    have Z:=L j _ O;rw[hp]at Z;rw[Z];exact hE j _ O) q1 (by rw[AO.jI];exact b5)⟩
  .obtain⟨p1,A,g2⟩:=key i o a1 l1
   obtain⟨q1,g3,g4⟩:=key j o' a2 l2;rw[hp]at A;cases A;rw[hq]at g3;cases g3;exact s.inj i j o o' p q (hm i o a1 l1).1 (hm j o' a2 l2).1 l1 l2 g2 g4 hpq
 have RK:RF ι' (yJ (X,d) v) (t.finish u):=k5 ι' v u (Ext.refl _) ((RV.vC L hv rv).mono hE);have W:=(D K' ι' J (t.finish u) cs p' SK RK (by rw[e1];exact k2.Tq hf)).fz z;rw[e2]at W;refine W.mono ?_
 rintro d g w3 ⟨K2,ι3,N,f2,h3,fr3,rfl,a2,b2,c2,r2,hx2,g2,S2,R2,rfl⟩
 rw[e1]at g2;exact⟨K2,ι3,N,f2,h3,fr3,rfl,z.trans a2,b2,Old.le_trans l c2,r2,hx2.trans U,k2.trans g2,S2,R2,rfl⟩
theorem jo.adr(F:Fits P (E.wo Y))(FF:eU P (E.wo Y)){l:List UK}(A:AtCall P (E.wo Y) l f h g args Z)(c:AV.fG Z.nx args=true)(u:jG Z.nx Z.tr=true)(m:posB (λi=>Nat.blt i Z.nx) Z.tr=true)(n:Z.df=0)(r:Z.nx<=OLD)
 (C:CallM P E Y g args (FN Z) Z.nx V)
 (B:∀b v s N',Old.le Y b->V b v s N'->v.low 0=true∧∃j:AH,j.nx=Z.nx∧j.df=0∧(∀i o,j.tr.get i=some o->o.live->s i=o∧o.low 0=true∧∃t,Z.tr.get i=some t∧t.live)∧jo P E b (lu P (E.wo Y) l f h v) j R):jo P E Y f h R:=by
 obtain⟨obs,e,H⟩:=A;unfold lu at B;cases hp:yu P (E.wo Y) l f h with
 |none=>rw[hp]at e;cases e
 |some p=>
  obtain⟨w,h0,o⟩:=p;rw[hp]at e B;simp only at e B;cases k:iZ (E.wo Y) w h0 with
  |none=>rw[k]at e;cases e
  |some a=>
   rw[k]at e B;cases a with
   |call X d g' q x=>
    simp only at e B;cases e;exact jo.of (path_ok F FF l f h hp H) (aS (qo k:h0.nx<=Z.nx) r) λ_ _=>jo.agY F FF k c u m n r C B
   |_=>cases e
end
end
end Go.Ev
