/- A part of the proof that ProofGreat returns true. -/
import Derived.Test.YtngcidmhopkokaaGreatDoorMyEv1
import Derived.Conc.Own
import Derived.Conc.Listed
import GoSem.ClaimLeaving
set_option linter.all false
namespace Go.Ev
set_option maxRecDepth 100000
section
variable{a:AV}{b id len n off:Nat}{e:TypeId}{l:List AV}
section
variable{P:Program}{K:Ctx}{ι:Nm}{h:AH}{w:World}{E:Env}
theorem BJ(s:List UInt8):dJ ι (bytesOf s) ((⟨s.toArray⟩:ByteArray).data.map λb=>Value.int .u8 b.toNat).toList:=by
 unfold bytesOf;rw[Array.toList_map];exact dJ.map λx _=>jA
theorem bytesOf_length(s:List UInt8):(bytesOf s).length=s.length:=by unfold bytesOf;simp
theorem Kq{r:List AV}(e:takeN l off n=some r):r.length=n:=(uD e).2
theorem Ct{r:List AV}(e:jw E h id off n=some r):r.length=n:=by
 unfold jw at e;cases a:Nat.ble OLD id with
 |true=>rw[a,bA]at e;exact(Aa _ _ e).1
 |false=>
  rw[a,bC]at e;split at e
  .exact Kq e
  .cases e
theorem Yu(i:Of K P E)(S:Sat K ι h w){size n:Nat}{x:AV}{c:List AV}{g:Value}(e:O9 E h size x=some (n,c))(b:RV ι x g):
 aj P (Builtin.lenOf g) w n w []∧c.length=n*size∧
 ∀d,∃(cs:Array Value) (es:List Event),aj P (Builtin.firstCells size n g) { w with drawn:=d } cs { w with drawn:=d } es∧dJ ι c cs.toList∧∀e∈es,xE K w.heap.size e:=by
 unfold O9 at e;split at e
 .cases e
  unfold RV at b;subst b;exact⟨aj.pure _,by simp,λd=>⟨#[],[],aj.pure _,bS,by simp⟩⟩
 .cases e
  unfold RV at b;obtain⟨a,c,rfl⟩:=b;refine⟨aj.pure _,by simp,λd=>⟨#[],[],?_,bS,by simp⟩⟩;cases a with
  |none=>exact aj.pure _
  |some a=>
   show aj P (loadCellsFrom a 0 (0*size) #[]) _ _ _ _;rw[jJ];exact aj.pure _
 .rename_i id off len cp
  cases f:jw E h id off (len*size)with
  |none=>rw[f]at e;cases e
  |some r=>
   rw[f]at e;cases e;obtain⟨p,hp,cap,rfl,_⟩:=kK b;refine⟨aj.pure _,Ct f,λd=>?_⟩;obtain⟨vs,es,h1,j,m,k⟩:=ou (P:=P) (S.drawn d) i hp f;exact⟨vs,es,h1,j,k⟩
 .rename_i s
  obtain⟨h1,e⟩:=dV e;cases e;obtain rfl:=mq b;have l:size=1:=ak h1;refine⟨?_,by rw[bytesOf_length,l];simp,λd=>⟨_,[],aj.pure _,?_,by simp⟩⟩
  .have:(⟨s.toArray⟩:ByteArray).size=s.length:=size_mk s
   show aj P (Pure.pure (⟨s.toArray⟩:ByteArray).size) w _ w [];rw[this];exact aj.pure _
  .have:(⟨s.toArray⟩:ByteArray).extract 0 s.length=⟨s.toArray⟩:=by rw[extract_mk];simp
   rw[this];exact BJ s
 .cases e
theorem JF(a:Nat):∀(k c:Nat),Builtin.growBy a k c<=2 ^ k*(c+768)
 |0,c=>by simp[Builtin.growBy]
 |k+1,c=>by
  rw[Builtin.growBy];split
  .have:1<=2 ^ (k+1):=Nat.one_le_two_pow
   calc c<=1*(c+768):=by omega
    _<=_:=Nat.mul_le_mul_right _ this
  .have h1:=JF a k (c+(c+768) / 4)
   have b:2 ^ (k+1)*(c+768)=2 ^ k*(2*(c+768)):=by rw[Nat.pow_succ,Nat.mul_assoc]
   rw[b];refine aQ h1 (Nat.mul_le_mul_left _ ?_);omega
theorem Pq{need cap:Nat}(h1:need<=1073741824)(a:cap<=1073741824):Builtin.nextslicecap need cap<=17179881472:=by
 unfold Builtin.nextslicecap;split
 .omega
 .split
  .omega
  .refine aQ (JF need 4 cap) ?_
   have:2 ^ 4*(cap+768)=16*(cap+768):=by rw[show(2:Nat) ^ 4=16 from rfl]
   rw[this];omega
theorem Gr(z:Array Value)(n:Nat):(Builtin.zeroCells z n).size=n*z.size:=by unfold Builtin.zeroCells;simp
theorem fI.room{f:Unit->Sem Value}{h':AH}(c:fI P K ι h w (f ()) a h'):fI P K ι h w (askRoom b>>=f) a h':=by
 unfold askRoom;by_cases d:b>roomBytes
 .rw[aH d]
  exact fI.kE (aj.mark _) (by intro e g;simp at g;subst g;trivial) c
 .rw[au d]
  exact fI.aG (aj.pure _) c
theorem Lx(F:Fits P E)(v:K.P=P)(S:Sat K ι h w){d:TI}(s:E.tt.get e=some d){old new:Array Value}{j l:List AV}{c:Nat}(t:dJ ι j old.toList)(u:dJ ι l new.toList)
 (m:j.length=len*d.size)(p:l.length=n*d.size)(x:len+n<=c):
 fI P K ι h w (do
  let g:=Builtin.zeroCells (← zeroValue e).cells (c - (len+n))
  Pure.pure (.slice (some (← newRow e (old++new++g))) (len+n) c)) (.sl h.nx 0 (len+n) none) (h.new (.cells (j++l) e true false)):=by
 obtain⟨z,y,_,A,q,B⟩:=nR (w:=w) (ι:=ι) F s;refine fI.aG y ?_;have r:P.cellsOf e=d.size:=by
  obtain⟨i,_,hi,C,_⟩:=(lq F s).info;unfold Program.cellsOf;rw[hi];exact C
 have l1:=t.length;have l2:=u.length;have f:(old++new++Builtin.zeroCells z.cells (c - (len+n))).size=c*d.size:=by
  simp only[Array.size_append,Gr,q];have D:old.size=len*d.size:=by rw[← m,l1];simp
  have G:new.size=n*d.size:=by rw[← p,l2];simp
  rw[D,G,← kF,← kF];congr 1;omega
 refine uY S (cap:=c) (o:= .cells (j++l) e true false) ?_ (λb=> .slice (some ⟨b,0,none⟩) (len+n) c) (λb w=>by
  show aj P (Pure.pure (⟨b,0,none⟩:Addr)>>=λa=>Pure.pure (Value.slice (some a) (len+n) c)) w _ w [];exact aj.aG (aj.pure _) (aj.pure _)) (λι' b H _=>?_)
 .refine⟨_,0,0,rfl,⟨old.toList++new.toList,(Builtin.zeroCells z.cells (c - (len+n))).toList,by simp,t.append u⟩,λh=>(by cases h),λ_=>?_,λ_=>⟨λo _=>by omega,λ_=>⟨rfl,rfl⟩⟩⟩
  rw[f,v,r]
 .unfold RV
  exact⟨_,H,c,rfl,x,λk I=>(by cases I),λ_ _=>ah _⟩
theorem Sat.aaZ(S:Sat K ι h w)(ob:Obj)(f:¬K.fz b)(g:∀j x q,h.tr.get j=some x->x.live->ι j=some q->q.1≠b):Sat K ι h { w with heap:=w.heap.setIfInBounds b ob }:=by
 refine⟨λi o hi d=>?_,S.inj,by simpa using S.lo,by simpa using S.bs,λc e=>?_,S.os,S.tape,S.output,S.jU⟩
 .obtain⟨p,a,h1,k,l,m,n⟩:=S.objs i o hi d
  refine⟨p,a,h1,k,l,?_,n⟩;simp only;rw[bI (Ne.symm (g i o p hi d h1))];exact m
 .simp only
  rw[bI (by intro r;exact f (r▸e))];exact S.old c e
theorem Jg{as:List AV}{vs:List Value}{c:Array Value}{l:List AV}{k:Nat}(h:dJ ι as vs)(b:∃l1 l2,c.toList=l1++l2∧dJ ι l l1)(s:k<=l.length)(d:k+vs.length<=c.size):
 ∃l1 l2,(wr c k vs).toList=l1++l2∧dJ ι (l.take k++as) l1:=by
 induction as generalizing vs c l k with
 |nil=>
  rw[bJ h];obtain⟨l1,l2,e1,e2⟩:=b;have:=e2.length;refine⟨l1.take k,l1.drop k++l2,?_,by simpa using e2.take k⟩;show c.toList=_;rw[e1,← fC,fq]
 |cons a as i=>
  obtain⟨v,r,rfl,j,m⟩:=aX h;obtain⟨l1,l2,e1,e2⟩:=b;have f:=e2.length;simp only[gI]at d;obtain⟨n,o,p,g⟩:=i (vs:=r) (c:=c.setIfInBounds k v) (l:=l.take k++[a]) (k:=k+1) m (by
   have q:c.size=l1.length+l2.length:=by have:=fZ List.length e1;simpa using this
   refine⟨l1.take k++[v],(l1.drop k++l2).drop 1,?_,(e2.take k).append (bQ j bS)⟩;rw[Array.toList_setIfInBounds,e1];have e:k<(l1++l2).length:=by simp;omega
   rw[List.set_eq_take_append_cons_drop,aH e];have t1:(l1++l2).take k=l1.take k:=by rw[List.take_append_of_le_length (by omega)]
   have t2:(l1++l2).drop (k+1)=(l1.drop k++l2).drop 1:=by
    rw[← List.drop_append_of_le_length (by omega),List.drop_drop]
   rw[t1,t2];simp) (by simp;omega) (by simp;omega)
  refine⟨n,o,p,?_⟩;have:(l.take k++[a]).take (k+1)++as=l.take k++a::as:=by
   have b:(l.take k++[a]).length=k+1:=by simp;omega
   rw[jk (by omega)];simp
  rw[this]at g;exact g
end
end
section
variable{a v:AV}{n:Nat}{tx ty:TypeId}{vx:Value}
section
variable{P:Program}{K:Ctx}{Z:Nm}{h:AH}{w:World}{E:Env}
theorem fI.still(S:Sat K Z h w){s:Sem Value}{v:Value}(h1:aj P s w v w [])(b:RV Z a v):fI P K Z h w s a h:=λ_=>
 ⟨Z,w,v,[],h1,Grow.refl _ _,S,b,jI.refl K w (by simp),rfl⟩
def abI:TypeDesc->Bool| .int _=>true|_=>false
theorem Qg(F:Fits P E)(hP:Of K P E)(S:Sat K Z h w){ts:TypeId}{s x:AV}{h':AH}{vs:Value}(e:nM E h ts tx s x=some (v,h'))(hs:RV Z s vs)(hx:RV Z x vx):
 fI P K Z h w (Builtin.append_ #[ts,tx] ty #[vs,vx]) v h':=by
 unfold nM at e;split at e
 .rename_i el tsz tby tzr xi hts htx
  have hd:E.d ts=some (.slice el):=by unfold Env.d;rw[hts];rfl
  split at e
  .cases e
  .rename_i r he
   obtain⟨y,e⟩:=cK e;split at e
   .cases e
   .rename_i n c hsrc
    obtain⟨hnb,e⟩:=cK e;have hnb:n<=268435456:=by
     rcases aZ 268435456 n with h1|h1
     .rw[← cO,hnb]at h1;cases h1
     .exact h1
    obtain⟨hlen,hcl,u⟩:=Yu (P:=P) hP S hsrc hx;obtain⟨dx,hdx,hmx⟩:=(lq F htx).desc;have hni':abI dx=false:=by
     cases dx<;>try rfl
     rename_i k;cases D:xi.d<;>rw[D]at hmx y<;>first
      |exact hmx.elim
      |(simp at y;done)
      |exact aP y (by decide)
    have hby:r.bytes<=4096:=by
     cases D:xi.d<;>rw[D]at y<;>simp only[Bool.or_eq_false_iff]at y<;>first
      |(cases y;done)
      |(rcases aZ 4096 r.bytes with h1|h1
        .rw[← cO,y.2]at h1;cases h1
        .exact h1)
    have hby0:r.bytes≠0:=by
     cases D:xi.d<;>rw[D]at y<;>simp only[Bool.or_eq_false_iff]at y<;>first
      |(cases y;done)
      |(intro h0;have:=y.1.1;rw[h0]at this;cases this)
    obtain⟨ii,z,U,his,hib,hiz,_,_,hzs,hzl⟩:=(lq F he).info;have V:∀(h0:AH) (base:Option Addr) (g l:Nat) (a:AV) (h1:AH),
     fI P K Z h0 w (if g+n<=l then do
      let new ← Builtin.firstCells r.size n vx
      match base with
       |some a=>do
        storeCells (a.add (g*r.size)) new.toList
        Pure.pure (Value.slice base (g+n) l)
       |_=>Pure.pure (Value.slice base (g+n) l)
      else do
       let newCap ← choose (.appendCap (g+n) l el)
       askRoom (newCap*ii.bytes)
       let old ← Builtin.firstCells r.size g (.slice base g l);let new ← Builtin.firstCells r.size n vx;let z ← zeroValue el;let b ← newRow el (old++new++Builtin.zeroCells z.cells (newCap - (g+n)))
       Pure.pure (.slice (some b) (g+n) newCap)) a h1->
     (¬(g+n<=l)->g<=268435456∧l<=1073741824)->fI P K Z h0 w (Builtin.append_ #[ts,tx] ty #[.slice base g l,vx]) a h1:=by
     intro h0 base g l a h1 C X;unfold Builtin.append_;refine fI.aG (aj.underlying (dP F hd)) ?_;refine fI.aG (dL (lq F he)) ?_;have i1:(#[ts,tx]:Array TypeId)[1]? =some tx:=rfl;have i2:(#[Value.slice base g l,vx]:Array Value)[1]=vx:=rfl;have i3:(#[Value.slice base g l,vx]:Array Value)[0]= .slice base g l:=rfl;simp only[i1,i2,i3];refine fI.aG (aj.underlying hdx) ?_;refine fI.aG (x:=false) ?_ ?_
     .cases dx<;>first
       |exact aj.pure _
       |(cases hni';done)
     simp only[gG,if_false,Bool.not_false,if_true];refine fI.aG hlen ?_;by_cases J:g+n<=l
     .simp only[J,if_true]at C ⊢
      exact C
     .obtain⟨b1,b2⟩:=X J
      simp only[J,if_false]at C ⊢;refine fI.aG (aj.typeInfo U) ?_;have hne:¬(((g+n:Nat):Int)>IntKind.i64.max∧(False∨ii.bytes=0)):=by
       rintro⟨_,h|h⟩
       .exact h
       .rw[hib]at h;exact hby0 h
      simp only[hne,if_false];refine fI.aG (aj.typeInfo U) ?_;have A:¬(Builtin.nextslicecap (g+n) l*ii.bytes>2 ^ 48):=by
       rw[hib];have h1:=Pq (need:=g+n) (cap:=l) (by omega) (by omega);have h2:=Nat.mul_le_mul h1 hby;omega
      simp only[A,if_false];obtain⟨k,w',hch,⟨d,rfl⟩,D⟩:=aj.choose (P:=P) (w:=w) (.appendCap (g+n) l el);intro hfr;obtain⟨ι',w',nv,es,h3,h4⟩:=C hfr;refine⟨ι',w',nv,es,?_,h4⟩;intro e0;have h5:=h3 e0;rw[runT_bind,hch e0]at h5 ⊢;simp only at h5 ⊢;rw[runT_bind,aj.typeInfo U];simp only at h5 ⊢;simpa using h5
    have grow:∀(base:Option Addr) (g l:Nat) (co:List AV) (h0:AH) (S0:Sat K Z h0 w),¬(g+n<=l)->l<=1073741824->g<=268435456->co.length=g*r.size->
     (∀d,∃(cs:Array Value) (es:List Event),aj P (Builtin.firstCells r.size g (.slice base g l)) { w with drawn:=d } cs { w with drawn:=d } es∧dJ Z co cs.toList∧∀e∈es,xE K w.heap.size e)->
     fI P K Z h0 w (Builtin.append_ #[ts,tx] ty #[.slice base g l,vx]) (.sl h0.nx 0 (g+n) none) (h0.new (.cells (co++c) el true false)):=by
     intro base g l co h0 S0 hgt L hsl hco hold;refine V _ _ _ _ _ _ ?_ (λ_=>⟨hsl,L⟩);rw[au hgt];refine fI.choose λk d D=>?_;refine fI.room ?_;obtain⟨cs,es,r1,r2,r3⟩:=hold d;refine fI.kE r1 r3 ?_;obtain⟨G,es2,q1,Y,q3⟩:=u d;refine fI.kE q1 q3 ?_;refine Lx F hP.P (S0.drawn d) he r2 Y hco hcl ?_;obtain⟨t,D|D⟩:=D
     .rw[D];simp only[Question.cut];omega
     .exact aP D.2 (by simp[Question.forced])
    split at e
    .
     unfold RV at hs;subst hs;cases M:Nat.beq n 0 with
     |true=>
      rw[M]at e;simp only[bA,bM,pK]at e;obtain⟨rfl,rfl⟩:=e;obtain rfl:n=0:=ak M;refine V _ _ _ _ _ _ ?_ (λhh=>aP (ah _) hh);rw[aH (ah _)];obtain⟨G,es2,q1,Y,q3⟩:=u w.drawn;refine fI.kE q1 q3 ?_;exact fI.still S (aj.pure _) (by unfold RV;rfl)
     |false=>
      rw[M]at e;simp only[bC,bM,pK]at e;obtain⟨rfl,rfl⟩:=e;have hn1:n≠0:=by intro h0;rw[h0]at M;cases M
      have:=grow none 0 0 [] h S (by omega) (by omega) (by omega) (by simp) (λd=>⟨#[],[],aj.pure _,bS,by simp⟩);simpa using this
    .
     rename_i id off len cap _ _;obtain⟨p,hp,m,rfl,J,L,_⟩:=kK hs;obtain rfl:=L cap rfl;cases X:Nat.ble (len+n) m with
     |true=>
      rw[X]at e;simp only[bA]at e;have N:=aF X;cases hst:dD h id (off+len*r.size) c with
      |none=>rw[hst]at e;cases e
      |some h1=>
       rw[hst]at e;cases e;refine V _ _ _ _ _ _ ?_ (λhh=>aP N hh);rw[aH N];obtain⟨G,es2,q1,Y,q3⟩:=u w.drawn;refine fI.kE q1 q3 ?_;simp only[ng];refine vV.val (um S hp hst Y) (λι' hE=>?_) (λw=>aj.pure _);unfold RV;exact⟨p,hE _ _ hp,m,rfl,N,λk D=>by cases D;rfl,λhn=>by cases hn⟩
     |false=>
      rw[X]at e;simp only[bC]at e;have hgt:¬(len+n<=m):=λhh=>by rw[← Nat.ble_eq,X]at hh;cases hh
      obtain⟨B,e⟩:=cK e;have B:len+m<=268435456:=by
       rcases aZ 268435456 (len+m)with h1|h1
       .rw[← cO,B]at h1;cases h1
       .exact h1
      cases O:jw E h id off (len*r.size)with
      |none=>rw[O]at e;cases e
      |some old=>
       rw[O]at e;cases e;exact grow (some ⟨p.1,off,none⟩) len m old h S hgt (by omega) (by omega) (Ct O) (λd=>by
        obtain⟨vs,es,h1,h2,h3,h4⟩:=ou (P:=P) (S.drawn d) hP hp O;exact⟨vs,es,h1,h2,h4⟩)
    .
     rename_i id len _ _;obtain⟨B,e⟩:=cK e;have B:len<=268435456:=by
      rcases aZ 268435456 len with h1|h1
      .rw[← cO,B]at h1;cases h1
      .exact h1
     obtain⟨p,hp,m,rfl,J,_,A⟩:=kK hs;have A:=A rfl rfl;split at e
     .rename_i Q I ho
      obtain⟨hc,e⟩:=dV e;cases e;simp only[av]at hc;obtain⟨⟨⟨hel,hlv⟩,hscal⟩,_⟩:=hc;obtain rfl:I=el:=ak hel;have hlv:=aF hlv;obtain⟨q,ob,hq,b1,b2,b3,X,cc,lo,hi,rfl,⟨l1,l2,hcc,hlr⟩,_,hgs,hfz⟩:=S.at ho trivial;obtain rfl:p=q:=by rw[hp]at hq;exact aI hq
      have hsz:P.cellsOf I=r.size:=by unfold Program.cellsOf;rw[U];exact his
      have hcsz:cc.size=p.2*r.size:=by rw[hgs rfl,hP.P,hsz]
      have R:∀j x q,(h.put id .dead).tr.get j=some x->x.live->Z j=some q->q.1≠p.1:=by
       intro j x q hj O W hqp;rcases AH.pR hj with⟨_,rfl⟩|⟨hne,hj'⟩
       .exact O.elim
       .exact hne (S.inj j id x _ q p hj' (AH.wV ho trivial) O trivial W hp hqp)
      by_cases H:len+n<=m
      .refine V _ _ _ _ _ _ ?_ (λhh=>aP H hh)
       rw[aH H];obtain⟨G,es2,q1,Y,q3⟩:=u w.drawn;refine fI.kE q1 q3 ?_;simp only[ng,gF];intro hfr;have hfn:Z h.nx=none:=hfr _ (ah _) (by rw[AH.lQ,AH.qF];omega);have hq2:=Y.length;have hmul:(len+n)*r.size<=cc.size:=by rw[hcsz];exact Nat.mul_le_mul_right _ (by omega)
       rw[kF]at hmul;have hlen2:len*r.size+G.toList.length<=cc.size:=by rw[← hq2,hcl];exact hmul
       obtain⟨es3,g1,g2⟩:=sW (P:=P) (ι:=Z) (b:=p.1) (off:=len*r.size) (T:=I) (lo:=lo) (hi:=hi) c G.toList 0 w cc Y hscal X (by omega) (hfz rfl).1;obtain⟨m1,m2,k1,k2⟩:=Jg (c:=cc) (k:=len*r.size) Y ⟨l1,l2,hcc,hlr⟩ hlv hlen2;have hE:Ext Z (upd Z h.nx p):=xV hfn;refine⟨upd Z h.nx p,_,.slice (some ⟨p.1,0,none⟩) (len+n) m,es3,by
        have:=aj.bind (f:=λ_=>(Pure.pure (Value.slice (some ⟨p.1,0,none⟩) (len+n) m):Sem Value)) g1 (aj.pure _);rw[bD]at this;exact this,?_,?_,?_,jI.MI _ b1 b2 ?_,by rw[AH.wu,AH.uI]⟩
       .rw[AH.lQ,AH.qF];exact Grow.upd
       .have S1:=(((S.forget id).aaZ (.cells (wr cc (len*r.size+0) G.toList) I (lo,hi)) b1 R).mono hE)
        refine(S1.place (i:=h.nx) (p:=p) (ob:= .cells (wr cc (len*r.size+0) G.toList) I (lo,hi)) (o:= .cells (Q.take (len*r.size)++c) I true false) (nS _ _ _) (by simp[b3]) b1 b2 (λj x q hj O W hqp=>?_) ?_).adv ?_
        .by_cases hji:j=h.nx
         .exact hji
         .rw[upd_ne hji]at W
          exact aP hqp (R j x q hj O W)
        .refine⟨_,lo,hi,rfl,⟨m1,m2,k1,k2.mono hE⟩,λh=>(by cases h),λ_=>?_,λ_=>⟨λo hlt=>?_,λh=>by cases h⟩⟩
         .rw[BU];exact hgs rfl
         .rw[BU]at hlt;exact(hfz rfl).1 o hlt
        .rw[AH.Pv,AH.qF]
       .unfold RV
        exact⟨p,nS _ _ _,m,rfl,H,λk D=>(by cases D),λ_ _=>A⟩
       .intro e' he'
        obtain⟨o,rfl⟩:=g2 e' he';exact⟨.inl ⟨b1,b2⟩,b3⟩
      .have:=grow (some ⟨p.1,0,none⟩) len m (Q.take (len*r.size)) (h.put id .dead) (S.forget id) H (by omega) B (by simp;omega) (λd=>by
        have O:takeN Q 0 (len*r.size)=some (Q.take (len*r.size)):=by
         simp only[takeN,fP];rw[show Nat.beq (Q.take (len*r.size)).length (len*r.size)=true by rw[Co];simp;omega];rfl
        obtain⟨vs,es,h1,h2,h3,h4⟩:=FU (P:=P) (S.drawn d) hp ho O;exact⟨vs,es,h1,h2,h4⟩)
       rw[AH.qF]at this;exact this
     .cases e
    .cases e
 .cases e
theorem vH{a:Option Addr}{c:Nat}:aj P (Builtin.lenOf (.slice a n c)) w n w []:=aj.pure _
theorem WX(F:Fits P E)(n:Of K P E)(S:Sat K Z h w){td tx ty:TypeId}{d s v:AV}{h':AH}{l vs:Value}(e:JN E h td d s=some (v,h'))(f:RV Z d l)(g:RV Z s vs):
 fI P K Z h w (Builtin.copy_ #[td,tx] ty #[l,vs]) v h':=by
 unfold JN at e;split at e
 .rename_i el o q r j
  have b:E.d td=some (.slice el):=by unfold Env.d;rw[j];rfl
  split at e
  .cases e
  .rename_i t i
   split at e
   .rename_i id off len cp id' off' len' cp'
    simp only at e;split at e
    .rename_i c u
     cases a:dD h id off c with
     |none=>rw[a]at e;cases e
     |some h1=>
      rw[a]at e;cases e;obtain⟨p,hp,cap,rfl,_⟩:=kK f;obtain⟨A,k,m,rfl,_⟩:=kK g;obtain⟨cs,es,r1,r2,_,y⟩:=ou (P:=P) S n k u;unfold Builtin.copy_;refine fI.aG (aj.underlying (dP F b)) ?_;refine fI.aG vH ?_;refine fI.aG (dL (lq F i)) ?_;refine fI.kE (x:=cs) r1 y ?_;exact vV.val (um S hp a r2) (λι' z=>jA) (λw=>aj.pure _)
    .cases e
   .rename_i id off len cp s'
    dsimp only at e;cases a:dD h id off (bytesOf (s'.take (Nat.min s'.length len)))with
    |none=>rw[a]at e;cases e
    |some h1=>
     rw[a]at e;cases e;obtain⟨p,hp,cap,rfl,_⟩:=kK f;obtain rfl:=mq g;unfold Builtin.copy_;refine fI.aG (aj.underlying (dP F b)) ?_;refine fI.aG (x:=s'.length) (by
      have:(⟨s'.toArray⟩:ByteArray).size=s'.length:=size_mk s';show aj P (Pure.pure (⟨s'.toArray⟩:ByteArray).size) w _ w [];rw[this];exact aj.pure _) ?_
     refine fI.aG (dL (lq F i)) ?_;refine fI.aG (aj.pure _) ?_;refine vV.val (um S hp a ?_) (λι' z=>jA) (λw=>aj.pure _);have:=BJ (ι:=Z) (s'.take (Nat.min s'.length len));have e2:(⟨s'.toArray⟩:ByteArray).extract 0 (Nat.min s'.length len)=⟨(s'.take (Nat.min s'.length len)).toArray⟩:=by rw[extract_mk];simp
     rw[e2];exact this
   .rename_i id off len cp
    cases e;obtain⟨p,hp,cap,rfl,_⟩:=kK f;unfold RV at g;subst g;unfold Builtin.copy_;refine fI.aG (aj.underlying (dP F b)) ?_;refine fI.aG vH ?_;refine fI.aG (dL (lq F i)) ?_;refine fI.aG (x:=#[]) (aj.pure _) ?_;have h0:Nat.min 0 len=0:=Nat.zero_min _;refine fI.aG (x:=()) (aj.pure _) ?_;rw[h0];exact fI.still S (aj.pure _) jA
   .cases e
    unfold RV at f g;subst g;subst f;unfold Builtin.copy_;refine fI.aG (aj.underlying (dP F b)) ?_;refine fI.aG vH ?_;refine fI.aG (dL (lq F i)) ?_;refine fI.aG (x:=#[]) (aj.pure _) ?_;exact fI.still S (aj.pure _) jA
   .rename_i id off len cp
    cases e;obtain⟨p,hp,cap,rfl,_⟩:=kK g;unfold RV at f;subst f;unfold Builtin.copy_;refine fI.aG (aj.underlying (dP F b)) ?_;refine fI.aG vH ?_;refine fI.aG (dL (lq F i)) ?_;have h0:Nat.min len 0=0:=Nat.min_zero _;refine fI.aG (x:=#[]) ?_ ?_
    .rw[h0]
     show aj P (loadCellsFrom _ 0 (0*t.size) #[]) _ _ _ _;rw[jJ];exact aj.pure _
    rw[h0];exact fI.still S (aj.pure _) jA
   .cases e
 .cases e
end
end
section
variable{α:Type}{T e el t:TypeId}{a:AV}{b id n off:Nat}{c:Array Value}{fz p:Nat×Nat}{l:List AV}{r:OR}{ti:TI}{vx:Value}{z:Bool}
section
variable{P:Program}{K:Ctx}{ι:Nm}{h:AH}{w:World}{E:Env}
theorem GD(a:w.heap[b]? =some (.cells c T fz)):w.shape? b=some (T,c.size):=by
 unfold World.shape?;simp[a]
theorem zH{o:Nat}(d:w.heap[b]? =some (.cells c T fz)):aj P (Conv.seenAt ⟨b,o,none⟩) w ⟨b,o,none⟩ w []:=by
 unfold Conv.seenAt;refine aj.aG (a:=none) ?_ (aj.pure _);unfold viewAt;refine aj.aG (aj.shape _) ?_;rw[GD d];exact aj.pure _
theorem Dr(a:w.heap[b]? =some (.cells c T fz)):aj P (cellsIn b) w (some c.size) w []:=by
 unfold cellsIn;refine aj.aG (aj.shape _) ?_;rw[GD a];exact aj.pure _
theorem xD{o:Nat}{u:TypeId}(a:w.heap[b]? =some (.cells c T fz)):aj P (variablesAt ⟨b,o,none⟩ u n) w (liesAt P P.depth T (c.size / P.cellsOf T) o u n) w []:=by
 unfold variablesAt;refine aj.aG aj.program ?_;refine aj.aG (aj.shape _) ?_;rw[GD a];exact aj.pure _
theorem Jl{s:List UInt8}(e:strOf (a::l)=some s):∃(n:Int) (r:List UInt8),a= .int .u8 n∧strOf l=some r∧s=UInt8.ofNat n.toNat::r:=by
 unfold strOf at e;split at e
 .rename_i b;cases b
 .rename_i n c b
  cases b;split at e
  .rename_i r hr
   cases e;exact⟨n,r,rfl,hr,rfl⟩
  .cases e
 .cases e
theorem JO{body:Value->ByteArray->Sem (ForInStep ByteArray)}(c:∀(n:Int) acc,body (.int .u8 n) acc=Pure.pure (ForInStep.yield (acc.push (UInt8.ofNat n.toNat)))):
 ∀{l:List AV} {s:List UInt8} {vs:List Value} {acc:ByteArray},strOf l=some s->dJ ι l vs->aj P (forIn vs acc body) w ⟨acc.data++s.toArray⟩ w []
 |[],s,vs,acc,e,b=>by
  rw[bJ b];unfold strOf at e;cases e;simp only[List.forIn_nil];have:(⟨acc.data++#[]⟩:ByteArray)=acc:=by simp
  rw[this];exact aj.pure _
 |a::l,s,vs,acc,e,b=>by
  obtain⟨n,r,rfl,hr,rfl⟩:=Jl e;obtain⟨v,d,rfl,h1,f⟩:=aX b;obtain rfl:=iB h1;rw[List.forIn_cons,c];refine aj.aG (aj.pure _) ?_;have:=JO c (acc:=acc.push (UInt8.ofNat n.toNat)) hr f;have e2:(⟨(acc.push (UInt8.ofNat n.toNat)).data++r.toArray⟩:ByteArray)=⟨acc.data++(UInt8.ofNat n.toNat::r).toArray⟩:=by
   congr 1;apply bU.1;simp[ByteArray.push]
  rw[e2]at this;exact this
theorem EJ(a:Of K P E)(S:Sat K ι h w){id off len:Nat}{b:Option Nat}{vs:List AV}{s:List UInt8}{v:Value}(d:jw E h id off len=some vs)(e:strOf vs=some s)(f:RV ι (.sl id off len b) v):
 fI P K ι h w (Conv.bytesToString v) (.str s) h:=by
 obtain⟨p,hp,cap,rfl,_⟩:=kK f;obtain⟨cs,es,r1,r2,_,g⟩:=ou (P:=P) S a hp d;unfold Conv.bytesToString;refine fI.kE r1 g ?_;refine fI.aG (x:=(⟨s.toArray⟩:ByteArray)) ?_ (fI.still S (aj.pure _) IG);obtain⟨l⟩:=cs;rw[List.forIn_toArray];have := JO (P := P) (w := w) (ι := ι) (acc := ByteArray.empty) (body := λ c s => match c with | .int .u8 n => Pure.pure (ForInStep.yield (s.push (UInt8.ofNat n.toNat))) | _ => stuck "bytesToString: byte expected") (λ n acc => rfl) e r2;have e2:(⟨ByteArray.empty.data++s.toArray⟩:ByteArray)=⟨s.toArray⟩:=by
  show(⟨#[]++s.toArray⟩:ByteArray)=_;simp
 rw[e2]at this;exact this
theorem M5(a:Array α)(x:α)(f:α->α):(a.push x).modify a.size f=a.push (f x):=by
 apply mZ;intro i;rw[Array.getElem?_modify,kr,kr];by_cases h:a.size=i
 .subst h;simp
 .rw[au h]
  by_cases b:i=a.size
  .exact aP b.symm h
  .rw[au b,au b]
theorem DX(p:K.P=P)(S:Sat K ι h w)(q:P.cellsOf e=1){a:List UInt8}:
 fI P K ι h w (Conv.stringToBytes e ⟨a.toArray⟩) (.sl h.nx 0 a.length none) (h.new (.cells (bytesOf a) e true false)):=by
 unfold Conv.stringToBytes;have r:(⟨a.toArray⟩:ByteArray).size=a.length:=size_mk a;rw[r];refine fI.choose λk d g=>?_;have l:a.length<=k:=by
  obtain⟨t,g|g⟩:=g
  .rw[g];simp only[Question.cut];omega
  .exact aP g.2 (by simp[Question.forced])
 intro m;have s:=CG m;have u:=S.drawn d;obtain⟨c,f⟩:∃c,c=a.toArray.map (λb=>Value.int .u8 b.toNat)++Array.replicate (k - a.length) (.int .u8 0):=⟨_,rfl⟩;have i:c.size=k:=by rw[f];simp;omega
 have hr:RO K.P (upd ι h.nx (w.heap.size,k)) k (.cells (bytesOf a) e true false) (.cells c e (k,k+1)):=by
  refine⟨c,k,k+1,rfl,⟨_,(Array.replicate (k - a.length) (Value.int .u8 0)).toList,?_,(BJ a)⟩,λh=>(by cases h),λ_=>?_,λ_=>⟨λo x=>by omega,λh=>by cases h⟩⟩
  .rw[f];simp
  .rw[i,p,q];omega
 refine⟨upd ι h.nx (w.heap.size,k),{ w with heap:=w.heap.push (.cells c e (k,k+1)),drawn:=d },.slice (some ⟨w.heap.size,0,none⟩) a.length k,[],?_,by rw[AH.lQ];exact Grow.upd,u.Cn s hr,?_,by simpa using jI.Cn (w:={ w with drawn:=d }) (.cells c e (k,k+1)) K,AH.wu⟩
 .dsimp only
  rw[← f];unfold newRow;refine aj.bind (e1:=[]) (e2:=[]) (aj.bind (e1:=[]) (e2:=[]) (aj.new _) (aj.pure _)) ?_;refine aj.bind (e1:=[]) (e2:=[]) (a:=()) (w1:={ w with heap:=w.heap.push (.cells c e (k,k+1)),drawn:=d }) ?_ (aj.pure _);unfold markStringish;refine aj.bind (e1:=[]) (e2:=[]) (aj.shape _) ?_;have n:World.shape? { w with heap:=w.heap.push (.cells c e (0,0)),drawn:=d } w.heap.size=some (e,c.size):=by unfold World.shape?;simp
  simp only[n];have:=aj.freeze (P:=P) (w:={ w with heap:=w.heap.push (.cells c e (0,0)),drawn:=d }) ⟨w.heap.size,c.size,none⟩ 1;have v:World.freeze { w with heap:=w.heap.push (.cells c e (0,0)),drawn:=d } ⟨w.heap.size,c.size,none⟩ 1={ w with heap:=w.heap.push (.cells c e (k,k+1)),drawn:=d }:=by
   unfold World.freeze;rw[au (by decide)];simp only;congr 1;rw[M5];simp[i]
  rw[v]at this;exact this
 .unfold RV
  exact⟨_,nS _ _ _,k,rfl,l,λj hj=>(by cases hj),λ_ _=>ah _⟩
theorem BI(F:Fits P E)(a:E.tt.get t=some ti):P.cellsOf t=ti.size:=by
 obtain⟨i,_,hi,b,_⟩:=(lq F a).info;unfold Program.cellsOf;rw[hi];exact b
theorem Xa(F:Fits P E)(R:Of K P E)(S:Sat K ι h w){s d:TypeId}{x:AV}(e:E8 E s d x h=some r)(m:RV ι x vx):∃v h',r= .val v h'∧fI P K ι h w (convert s d vx) v h':=by
 unfold E8 at e;split at e
 .rename_i el id off i j
  split at e
  .rename_i vs U g z ti I J
   obtain⟨n,rfl⟩:=dV e;refine⟨_,_,rfl,?_⟩;rw[av]at n;obtain⟨o,L⟩:=n;rw[cO]at L;obtain⟨p,hp,rfl⟩:=iV m;obtain⟨q,ob,A,V,W,X,B,c,lo,hi,rfl,⟨l1,l2,C,D⟩,_⟩:=S.at I trivial;obtain rfl:p=q:=by rw[hp]at A;exact aI A
   have G:off<c.size:=by
    have h1:=fZ List.length C;have T:=D.length;simp at h1;omega
   refine fI.still S ?_ (uW hp);unfold convert;refine aj.aG (aj.underlying (sK F i)) ?_;refine aj.aG (aj.underlying (uw F j)) ?_;unfold Conv.unsafePointer;refine aj.aG (aj.underlying (sK F i)) ?_;refine aj.aG (aj.underlying (uw F j)) ?_;refine aj.aG (zH B) ?_;refine aj.aG (Dr B) ?_;refine aj.aG (dL (lq F J)) ?_;have h1:ti.size≠0:=by intro h0;rw[h0]at o;cases o
   simp only[h1,decide_false,Bool.false_or,Option.isNone_none,Bool.and_true];have T:¬(c.size<=off):=by omega
   simp[T];exact aj.pure _
  .cases e
 .rename_i u id i j
  split at e
  .rename_i vs el z ti I J
   split at e
   .rename_i Y M
    obtain⟨n,rfl⟩:=dV e;refine⟨_,_,rfl,?_⟩;simp only[av]at n;obtain⟨⟨⟨o,l⟩,b⟩,f⟩:=n;have b:=ak b;obtain⟨p,hp,rfl⟩:=iV m;obtain⟨q,ob,A,V,W,X,B,c,lo,hi,rfl,⟨l1,l2,C,D⟩,Z,_⟩:=S.at I trivial;obtain rfl:p=q:=by rw[hp]at A;exact aI A
    have N:c.size=vs.length:=Z rfl;have hn2:Y.size≠0:=by intro h0;rw[h0]at l;cases l
    have k:c.size / P.cellsOf el=1:=by rw[BI F M,N,b];exact Nat.div_self (by omega)
    have O:liesAt P P.depth el (c.size / P.cellsOf el) 0 u 1=true:=by
     rw[k];rw[List.any_eq_true]at f;obtain⟨q,Q,t⟩:=f;rw[av]at t;obtain⟨q1,q2⟩:=q;have e1:q1=el:=ak t.1;have e2:q2=u:=ak t.2;subst e1;subst e2;exact F.lies _ _ Q
    refine fI.still S ?_ (uW hp);unfold convert;refine aj.aG (aj.underlying (uw F i)) ?_;refine aj.aG (aj.underlying (sK F j)) ?_;unfold Conv.unsafePointer;refine aj.aG (aj.underlying (uw F i)) ?_;refine aj.aG (aj.underlying (sK F j)) ?_;refine aj.aG (zH B) ?_;refine aj.aG (dL (lq F J)) ?_;refine aj.aG (xD B) ?_;simp only[O,jm,if_true];exact aj.pure _
   .cases e
  .cases e
 .rename_i e1 i j
  split at e
  .rename_i he1
   cases e;refine⟨_,_,rfl,?_⟩;unfold RV at m;subst m;refine fI.still S ?_ (v:= .string ⟨#[]⟩) (by unfold RV;rfl);unfold convert;refine aj.aG (aj.underlying (dP F i)) ?_;refine aj.aG (aj.underlying (oh F j)) ?_;refine aj.aG (aj.underlying (zl F he1)) ?_;exact aj.pure _
  .cases e
 .rename_i e1 id off len cp i j
  split at e
  .rename_i he1
   split at e
   .rename_i vs O
    cases y:strOf vs with
    |none=>rw[y]at e;cases e
    |some sr=>
     rw[y]at e;cases e;refine⟨_,_,rfl,?_⟩;have:=EJ (P:=P) R S O y m;obtain⟨p,hp,cap,rfl,_⟩:=kK m;unfold convert;refine fI.aG (aj.underlying (dP F i)) ?_;refine fI.aG (aj.underlying (oh F j)) ?_;refine fI.aG (aj.underlying (zl F he1)) ?_;exact this
   .cases e
  .cases e
 .rename_i e1 a i j
  split at e
  .rename_i ti H
   split at e
   .rename_i hk
    obtain⟨n,rfl⟩:=dV e;refine⟨_,_,rfl,?_⟩;obtain rfl:=mq m;have he1:E.d e1=some (.int .u8):=by unfold Env.d;rw[H];simp[hk]
    have G:P.cellsOf e1=1:=by rw[BI F H];exact ak n
    unfold convert;refine fI.aG (aj.underlying (oh F i)) ?_;refine fI.aG (aj.underlying (dP F j)) ?_;refine fI.aG (aj.underlying (zl F he1)) ?_;exact DX R.P S G
   .cases e
  .cases e
 .cases e
theorem Sat.VD(S:Sat K ι h w)(hp:ι id=some p){vs:List AV}{g:Bool}(d:h.obj id= .cells vs el g z){a:Nat×Nat}(f:w.heap[p.1]? =some (.cells c el fz)):
 Sat K ι (h.put id (.cells vs el g true)) { w with heap:=w.heap.setIfInBounds p.1 (.cells c el a) }:=by
 obtain⟨q,ob,e,k,l,m,b,n,lo,hi,rfl,h1,i,j,o⟩:=S.at d trivial;obtain rfl:p=q:=by rw[hp]at e;exact aI e
 rw[f]at b;cases b;exact S.MI hp (AH.wV d trivial) trivial ⟨c,a.1,a.2,rfl,h1,i,j,λh=>by cases h⟩
theorem Cu{b:Nat}{c:Array Value}{T:TypeId}{fz:Nat×Nat}(i:w.heap[b]? =some (.cells c T fz)):∀{l:List AV} {s:List UInt8} {off:Nat} {acc:ByteArray},strOf l=some s->(∀j a,l[j]? =some a->∃v,c[off+j]? =some v∧RV ι a v)->
 ∃es,aj P (loadBytes ⟨b,off,none⟩ acc l.length) w ⟨acc.data++s.toArray⟩ w es∧∀e∈es,∃o,e=⟨.cell ⟨b,o,none⟩,false,false⟩
 |[],s,off,acc,e,f=>by
  unfold strOf at e;cases e;refine⟨[],?_,by simp⟩;have:(⟨acc.data++#[]⟩:ByteArray)=acc:=by simp
  rw[this];unfold loadBytes;exact aj.pure _
 |a::l,s,off,acc,e,f=>by
  obtain⟨n,r,rfl,hr,rfl⟩:=Jl e;obtain⟨v,h1,m⟩:=f 0 _ rfl;obtain rfl:=iB m;obtain⟨es,k,p⟩:=Cu i (off:=off+1) (acc:=acc.push (UInt8.ofNat n.toNat)) hr (λj a q=>by
   have:=f (j+1) a (by simpa using q);rw[show off+1+j=off+(j+1)by omega];exact this)
  refine⟨[⟨.cell ⟨b,off,none⟩,false,false⟩]++es,?_,?_⟩
  .rw[gI,loadBytes]
   refine aj.bind (aj.load (v:= .int .u8 n) (by rw[cell_of i];simpa using h1)) ?_;rw[ng];have e2:(⟨(acc.push (UInt8.ofNat n.toNat)).data++r.toArray⟩:ByteArray)=⟨acc.data++(UInt8.ofNat n.toNat::r).toArray⟩:=by
    congr 1;apply bU.1;simp[ByteArray.push]
   rw[e2]at k;exact k
  .intro t g
   rcases bF.1 g with d|d
   .simp at d;subst d;exact⟨off,rfl⟩
   .exact p t d
theorem liesAt_bytes{a:Nat}(i:1<=P.depth)(c:P.cellsOf e=1)(f:off+n<=a):liesAt P P.depth e a off e n=true:=by
 obtain⟨d,b⟩:∃d,P.depth=d+1:=⟨P.depth - 1,by omega⟩;rw[b,liesAt];rw[eD];left;rw[b,rowAt];simp only[c];rw[au (by decide)];rw[eD];left;have g:sameLayout P (d+1) e e=true:=by rw[sameLayout];simp
 simp[g];omega
theorem Ui{b off n:Nat}{c:Array Value}{T:TypeId}{fz:Nat×Nat}(f:w.heap[b]? =some (.cells c T fz))(g:n≠0):
 ∃a,w.freeze ⟨b,off,none⟩ n={ w with heap:=w.heap.setIfInBounds b (.cells c T a) }:=by
 obtain⟨lo,hi⟩:=fz;refine⟨if lo==hi then(off,off+n)else(min lo off,max hi (off+n)),?_⟩;unfold World.freeze;rw[au g];congr 1;apply mZ;intro i;rw[Array.getElem?_modify];by_cases h:b=i
 .subst h
  obtain⟨d,e⟩:=aS.1 f;simp[d,e]
 .simp[h]
theorem Xq(F:Fits P E)(a:Xr E e=true):E.d e=some (.int .u8)∧P.cellsOf e=1:=by
 unfold Xr at a;split at a
 .rename_i ti b
  split at a
  .rename_i c
   exact⟨by unfold Env.d;rw[b];simp[c],by rw[BI F b];exact ak a⟩
  .cases a
 .cases a
theorem DJ(F:Fits P E)(hP:K.P=P)(S:Sat K ι h w){B tn ty:TypeId}{p n v:AV}{h':AH}{N O:Value}(e:lM E h B p n=some (.val v h'))(hp:RV ι p N)(Q:RV ι n O):
 fI P K ι h w (Builtin.unsafeString_ #[B,tn] ty #[N,O]) v h':=by
 unfold lM at e;split at e
 .rename_i k d
  obtain⟨h0,e⟩:=dV e;cases e;simp only[fK]at h0;subst h0;unfold RV at hp;subst hp;obtain rfl:=iB Q;refine fI.still S ?_ (v:= .string ⟨#[]⟩) (by unfold RV;rfl);unfold Builtin.unsafeString_;refine aj.aG (a:=0) (aj.pure _) ?_;exact aj.pure _
 .rename_i id off k d
  split at e
  .rename_i el vs b g z Y R
   .obtain⟨T,C⟩:=iF e
    clear e;have e:=C;clear C;simp only[av,gM]at T;obtain⟨⟨⟨Z,h1⟩,h2⟩,h3⟩:=T;obtain rfl:b=el:=ak h1;split at e
    .rename_i c ht
     cases G:strOf c with
     |none=>rw[G]at e;cases e
     |some s=>
      rw[G]at e;cases e;obtain⟨q,U,rfl⟩:=iV hp;obtain rfl:=iB Q;obtain⟨q',ob,l,V,W,b3,D,cc,lo,hi,rfl,⟨l1,l2,m,r⟩,_⟩:=S.at R trivial;obtain rfl:q=q':=by rw[U]at l;exact aI l
      have t:P.cellsOf b=1:=(Xq F Z).2;obtain⟨u,y⟩:=uD ht;have H:off+d.toNat<=vs.length:=by
       have:=fZ List.length u;rw[y]at this;simp at this;omega
      have X:vs.length<=cc.size:=by
       have h5:=fZ List.length m;have h6:=r.length;simp at h5;omega
      have hl:liesAt P P.depth b (cc.size / P.cellsOf b) off b d.toNat=true:=liesAt_bytes F.depth t (by rw[t];simp;omega);obtain⟨es,I,g2⟩:=Cu (P:=P) (ι:=ι) D (off:=off) (acc:=ByteArray.empty) G (λj a i=>by
       rw[u]at i;rw[ig]at i;split at i
       .rw[jE]at i
        obtain⟨v,f,J⟩:=r.get i;refine⟨v,?_,J⟩;rw[← bq,m,aU]
        .exact f
        .rw[aJ]at f;exact f.1
       .cases i)
      rw[y]at I;have e2:(⟨ByteArray.empty.data++s.toArray⟩:ByteArray)=⟨s.toArray⟩:=by
       show(⟨#[]++s.toArray⟩:ByteArray)=_;simp
      rw[e2]at I;have L:∀e∈es,xE K w.heap.size e:=by
       intro C M;obtain⟨o,rfl⟩:=g2 C M;exact⟨.inl ⟨V,W⟩,b3⟩
      unfold Builtin.unsafeString_;refine fI.aG (x:=d) (aj.pure _) ?_;have n1:¬d<0:=by omega
      have n2:¬d>IntKind.i64.max:=by simp only[IntKind.max,IntKind.bits,IntKind.signed];omega
      have n3:d≠0:=by omega
      have i1:(#[B,tn]:Array TypeId)[0]? =some B:=rfl;simp only[i1,n1,n2,n3,if_false];refine fI.aG (x:=b) ?_ ?_
      .unfold elemOf
       exact aj.aG (aj.underlying (sK F Y)) (aj.pure _)
      refine fI.aG (xD D) ?_;simp only[hl,if_true];refine fI.kE I L ?_;obtain⟨fz',A⟩:=Ui (off:=off) (n:=d.toNat) D (by omega);intro hfr;refine⟨ι,_,.string ⟨s.toArray⟩,[],aj.bind (e1:=[]) (e2:=[]) (aj.freeze _ _) (aj.pure _),by rw[AH.qF];exact Grow.refl _ _,?_,IG,?_,AH.uI⟩
      .rw[A];exact S.VD U R D
      .rw[A];exact jI.MI _ V W (by simp)
    .cases e
  .cases e
 .cases e
end
end
section
open Go.Conc (G)
variable{K:Ctx}{P:Program}{es:Array Event}{fn:FuncId}{n:Nat}
def RI(ι:Nm):AI->Item->Prop
 | .code c,i=>i= .code c
 | .inBlock id,i=>i= .inBlock id
 | .inLoop b,i=>i= .inLoop b
 | .inScope b,i=>i= .inScope b
 | .inRegion a todo,i=>∃k,todo=a.toList.drop k∧i= .inRegion a ((List.range a.size).drop k)
 | .inRangeFunc id,i=>∃p,ι id=some p∧i= .inRangeFunc p.1
 | .endRangeFunc id,i=>∃p,ι id=some p∧i= .endRangeFunc p.1
 | .beginRound,i=>i= .beginRound
 | .rT a n,i=>∃d,Left a n d∧i= .inRegion a d
def Fx(ι:Nm):List AI->List Item->Prop
 |[],l=>l=[]
 |a::as,l=>∃i r,l=i::r∧RI ι a i∧Fx ι as r
def RD(ι:Nm)(a:AD)(d:Deferred):Prop:=
 match a.f with
 | .nT=>∀id,a.args=[.ptr id 0]->∃p,ι id=some p∧d={ target:= .collected p.1,args:=#[] }
 | .fn g first cap=>∃b as cs,dJ ι first b∧dJ ι a.args as∧dJ ι cap cs.toList∧d={ target:= .fn (.func g) cs,args:=(b++as).toArray }
 |_=>True
def UM(ι:Nm):List AD->List Deferred->Prop
 |[],l=>l=[]
 |a::as,l=>∃d r,l=d::r∧RD ι a d∧UM ι as r
structure RF(ι:Nm)(f:AF)(fr:Frame):Prop where
 fn:fr.fn=f.x.fn
 tm:RT ι f.x.nt f.tm fr.tmps
 todo:Fx ι f.todo fr.todo
 ds:UM ι f.ds fr.defers
 mode:fr.mode=if f.ret then .returning else .run
 kind:fr.kind=if f.x.deferred then .deferred else .normal
 round:match f.x.round with |none=>fr.roundOf=none|some id=>∃p,ι id=some p∧fr.roundOf=some p.1
section
variable{Z ι':Nm}
theorem RI.mono(c:Ext Z ι'){a:AI}{i:Item}(h:RI Z a i):RI ι' a i:=by
 cases a with
 |inRangeFunc id=>obtain⟨p,h1,b⟩:=h;exact⟨p,c _ _ h1,b⟩
 |endRangeFunc id=>obtain⟨p,h1,b⟩:=h;exact⟨p,c _ _ h1,b⟩
 |_=>exact h
theorem Fx.mono(b:Ext Z ι'){l:List AI}{is:List Item}(h:Fx Z l is):Fx ι' l is:=by
 induction l generalizing is with
 |nil=>exact h
 |cons a l c=>obtain⟨i,r,h1,d,e⟩:=h;exact⟨i,r,h1,d.mono b,c e⟩
theorem RD.mono(b:Ext Z ι'){a:AD}{d:Deferred}(h:RD Z a d):RD ι' a d:=by
 unfold RD at h ⊢;split at h
 .exact λid c=>by obtain⟨p,h1,e⟩:=h id c;exact⟨p,b _ _ h1,e⟩
 .obtain⟨f,as,cs,h1,e,g,i⟩:=h
  exact⟨f,as,cs,h1.mono b,e.mono b,g.mono b,i⟩
 .trivial
theorem UM.mono(b:Ext Z ι'){l:List AD}{ds:List Deferred}(h:UM Z l ds):UM ι' l ds:=by
 induction l generalizing ds with
 |nil=>exact h
 |cons a l c=>obtain⟨i,r,h1,d,e⟩:=h;exact⟨i,r,h1,d.mono b,c e⟩
theorem RF.mono(a:Ext Z ι'){f:AF}{fr:Frame}(h:RF Z f fr):RF ι' f fr:=by
 refine⟨h.fn,h.tm.mono a,h.todo.mono a,h.ds.mono a,h.mode,h.kind,?_⟩;have:=h.round;split at this
 .exact this
 .obtain⟨p,h1,b⟩:=this;exact⟨p,a _ _ h1,b⟩
theorem Fx.cons{a:AI}{i:Item}{l:List AI}{is:List Item}(h:RI Z a i)(h':Fx Z l is):Fx Z (a::l) (i::is):=⟨i,is,rfl,h,h'⟩
theorem UM.append{l m:List AD}{ds es:List Deferred}(h:UM Z l ds)(h':UM Z m es):UM Z (l++m) (ds++es):=by
 induction l generalizing ds with
 |nil=>
  have:ds=[]:=h;subst this;exact h'
 |cons a l b=>obtain⟨d,r,rfl,c,e⟩:=h;exact⟨d,_,rfl,c,b e⟩
theorem nZ{id:Nat}:∀{l:List AI} {is:List Item} {k:List AI},yA id l=some k->Fx Z l is->∃g,exitTo id is=some g∧Fx Z k g
 |[],_,_,e,_=>by cases e
 |a::l,is,k,e,h=>by
  obtain⟨i,r,rfl,h1,d⟩:=h;cases a with
  |inBlock b=>
   obtain rfl:i= .inBlock b:=h1;simp only[yA]at e;rw[exitTo];cases f:Nat.beq b id with
   |true=>
    rw[f]at e;simp only[bA,bM]at e;subst e;have:(b==id)=true:=by rw[← Co];exact f
    rw[aH this];exact⟨r,rfl,d⟩
   |false=>
    rw[f]at e;simp only[bC]at e;have:¬(b==id)=true:=by rw[← Co,f];simp
    rw[au this];exact nZ (l:=l) (is:=r) e d
  |code c=>obtain rfl:i= .code c:=h1;exact nZ (l:=l) (is:=r) e d
  |inLoop c=>obtain rfl:i= .inLoop c:=h1;exact nZ (l:=l) (is:=r) e d
  |inScope c=>obtain rfl:i= .inScope c:=h1;exact nZ (l:=l) (is:=r) e d
  |inRegion j td=>obtain⟨g,_,rfl⟩:=h1;exact nZ (l:=l) (is:=r) e d
  |inRangeFunc b=>obtain⟨p,_,rfl⟩:=h1;exact nZ (l:=l) (is:=r) e d
  |endRangeFunc b=>obtain⟨p,_,rfl⟩:=h1;exact nZ (l:=l) (is:=r) e d
  |beginRound=>obtain rfl:i= .beginRound:=h1;exact nZ (l:=l) (is:=r) e d
  |rT j n=>obtain⟨_,_,rfl⟩:=h1;exact nZ (l:=l) (is:=r) e d
theorem pF{id:Nat}:∀{l:List AI} {is:List Item},yA id l=none->Fx Z l is->exitTo id is=none
 |[],is,_,h=>by
  have:is=[]:=h;subst this;rfl
 |a::l,is,e,h=>by
  obtain⟨i,r,rfl,h1,d⟩:=h;cases a with
  |inBlock b=>
   obtain rfl:i= .inBlock b:=h1;simp only[yA]at e;rw[exitTo];cases f:Nat.beq b id with
   |true=>rw[f]at e;cases e
   |false=>
    rw[f]at e;simp only[bC]at e;have:¬(b==id)=true:=by rw[← Co,f];simp
    rw[au this];exact pF (l:=l) (is:=r) e d
  |code c=>obtain rfl:i= .code c:=h1;exact pF (l:=l) (is:=r) e d
  |inLoop c=>obtain rfl:i= .inLoop c:=h1;exact pF (l:=l) (is:=r) e d
  |inScope c=>obtain rfl:i= .inScope c:=h1;exact pF (l:=l) (is:=r) e d
  |inRegion g td=>obtain⟨j,_,rfl⟩:=h1;exact pF (l:=l) (is:=r) e d
  |inRangeFunc b=>obtain⟨p,_,rfl⟩:=h1;exact pF (l:=l) (is:=r) e d
  |endRangeFunc b=>obtain⟨p,_,rfl⟩:=h1;exact pF (l:=l) (is:=r) e d
  |beginRound=>obtain rfl:i= .beginRound:=h1;exact pF (l:=l) (is:=r) e d
  |rT g n=>obtain⟨_,_,rfl⟩:=h1;exact pF (l:=l) (is:=r) e d
theorem nY{t:Nat}:∀{l:List AI} {is:List Item} {k:List AI},yw t l=some k->Fx Z l is->∃d,gotoIn t is=some d∧Fx Z k d
 |[],_,_,e,_=>by cases e
 |a::l,is,k,e,h=>by
  obtain⟨i,r,rfl,h1,b⟩:=h;cases a with
  |inScope c=>
   obtain rfl:i= .inScope c:=h1;simp only[yw]at e;rw[gotoIn];split at e
   .rename_i j hr
    simp only[bM]at e;subst e;simp only[hr];exact⟨_,rfl,.cons rfl (.cons rfl b)⟩
   .rename_i hr
    simp only[hr];exact nY (l:=l) (is:=r) e b
  |code c=>obtain rfl:i= .code c:=h1;exact nY (l:=l) (is:=r) e b
  |inLoop c=>obtain rfl:i= .inLoop c:=h1;exact nY (l:=l) (is:=r) e b
  |inBlock c=>obtain rfl:i= .inBlock c:=h1;exact nY (l:=l) (is:=r) e b
  |inRegion f td=>obtain⟨d,_,rfl⟩:=h1;exact nY (l:=l) (is:=r) e b
  |inRangeFunc g=>obtain⟨p,_,rfl⟩:=h1;exact nY (l:=l) (is:=r) e b
  |endRangeFunc g=>obtain⟨p,_,rfl⟩:=h1;exact nY (l:=l) (is:=r) e b
  |beginRound=>obtain rfl:i= .beginRound:=h1;exact nY (l:=l) (is:=r) e b
  |rT f n=>obtain⟨_,_,rfl⟩:=h1;exact nY (l:=l) (is:=r) e b
theorem pE{t:Nat}:∀{l:List AI} {is:List Item},yw t l=none->Fx Z l is->gotoIn t is=none
 |[],is,_,h=>by
  have:is=[]:=h;subst this;rfl
 |a::l,is,e,h=>by
  obtain⟨i,r,rfl,h1,b⟩:=h;cases a with
  |inScope c=>
   obtain rfl:i= .inScope c:=h1;simp only[yw]at e;rw[gotoIn];split at e
   .cases e
   .rename_i hr
    simp only[hr];exact pE (l:=l) (is:=r) e b
  |code c=>obtain rfl:i= .code c:=h1;exact pE (l:=l) (is:=r) e b
  |inLoop c=>obtain rfl:i= .inLoop c:=h1;exact pE (l:=l) (is:=r) e b
  |inBlock c=>obtain rfl:i= .inBlock c:=h1;exact pE (l:=l) (is:=r) e b
  |inRegion d td=>obtain⟨g,_,rfl⟩:=h1;exact pE (l:=l) (is:=r) e b
  |inRangeFunc f=>obtain⟨p,_,rfl⟩:=h1;exact pE (l:=l) (is:=r) e b
  |endRangeFunc f=>obtain⟨p,_,rfl⟩:=h1;exact pE (l:=l) (is:=r) e b
  |beginRound=>obtain rfl:i= .beginRound:=h1;exact pE (l:=l) (is:=r) e b
  |rT d n=>obtain⟨_,_,rfl⟩:=h1;exact pE (l:=l) (is:=r) e b
end
def EvG(K:Ctx)(size:Nat)(e:Event):Prop:=xE K size e∨e=⟨.mark .disable,false,true⟩∨e=⟨.mark .enable,false,true⟩
structure iA(K:Ctx)(w w':World)(es:Array Event):Prop where
 size:w.heap.size<=w'.heap.size
 kept:∀b,b<w.heap.size->¬(¬K.fz b∧K.own b)->w'.heap[b]? =w.heap[b]?
 evs:∀e∈es,EvG K w'.heap.size e
 os:w'.os=w.os
 tape:w'.tape=w.tape
 output:w'.output=w.output
theorem Uq(d:Nat)(e:Event)(l:List Event):deafBehind d (e::l).toArray=deafBehind (deafBehind d #[e]) l.toArray:=by simp[deafBehind]
theorem om(h:∀e∈es,e.loc≠.mark .disable∧e.loc≠.mark .enable)(d:Nat):deafBehind d es=d:=by
 obtain⟨l⟩:=es;induction l with
 |nil=>rfl
 |cons e l c=>
  have f:=h e (by simp);have h1:deafBehind d #[e]=d:=by
   obtain⟨a,wr,g⟩:=e;cases a with
   |mark m=>cases m<;>simp_all [deafBehind]
   |_=>simp[deafBehind]
  rw[Uq,h1];exact c (λx b=>h x (by simp at b ⊢;exact .inr b))
theorem xE.still{e:Event}(h:xE K n e):e.loc≠.mark .disable∧e.loc≠.mark .enable:=by
 obtain⟨b,wr,c⟩:=e;constructor<;>(intro a;simp only at a;subst a;exact h)
theorem mP{es:List Event}(h:∀e∈es,xE K n e)(d:Nat):deafBehind d (seen P fn es.toArray)=d:=
 om (λe a=>(h e (by simpa using Conc.mem_seen a)).still) d
end
section
variable{α:Type}{r:OR}{s:Sem α}{t:TypeId}
section
variable{P:Program}{K:Ctx}{Y:Nm}{h:AH}{w:World}{E:Env}{X:Tr AV}{Z:Operand->Value}
def Yields(Y:Nm)(v:AV):Next->Prop
 | .value u=>RV Y v u
 | .skip=>RV Y v undef
 |_=>False
def X3(P:Program)(K:Ctx)(Y:Nm)(h:AH)(w:World)(s:Sem Next)(v:AV)(h':AH):Prop:=Free Y h.nx h'.nx->
 ∃ι' w' nx es,aj P s w nx w' es∧Grow Y ι' h.nx h'.nx∧Sat K ι' h' w'∧Yields ι' v nx∧jI K w w' es∧h'.df=h.df
theorem fI.next{s:Sem Value}{v:AV}{h':AH}(h1:fI P K Y h w s v h'):X3 P K Y h w (do Pure.pure (.value (← s))) v h':=λb=>by
 obtain⟨ι',w',a,es,c,d,e,g,i,j⟩:=h1 b;refine⟨ι',w',.value a,es,?_,d,e,g,i,j⟩;have:=aj.bind c (aj.pure (P:=P) (w:=w') (Next.value a)) (f:=λv=>Pure.pure (Next.value v));simpa using this
theorem vV.next{s:Sem Unit}{v:AV}{h':AH}(h1:vV P K Y h w s h'∧v=gH):X3 P K Y h w (do s;Pure.pure .skip) v h':=λa=>by
 obtain⟨ι',w',es,b,c,d,e,g⟩:=h1.1 a;refine⟨ι',w',.skip,es,?_,c,d,?_,e,g⟩
 .have:=aj.bind b (aj.pure (P:=P) (w:=w') Next.skip) (f:=λ_=>Pure.pure Next.skip)
  simpa using this
 .rw[h1.2];exact kS
def ROk(P:Program)(K:Ctx)(Y:Nm)(h:AH)(w:World)(s:Sem Next):OR->Prop
 | .val v h'=>X3 P K Y h w s v h'
 | .alts l=>∃p∈l,X3 P K Y h w s p.1 p.2
 | .call g args=>∃vs:Array Value,dJ Y args vs.toList∧∀b,s.runT P w b=(callFunc g vs).runT P w b
 | .yield id args=>∃(p:Nat×Nat) (vs:Array Value),Y id=some p∧dJ Y args vs.toList∧∀b,s.runT P w b=(Instr.yield p.1 vs).runT P w b
 | .rz a=>∃d,aj P s w (.defer d) w []∧RD Y a d
 | .stop=>True
theorem Ga{x:Option α}{f:α->OR}(e:x.map f=some r)(b:∀a,∃v h',f a= .val v h'):∃v h',r= .val v h':=by
 cases x with
 |none=>cases e
 |some a=>cases e;exact b a
theorem Qh(e:sQ E h t=some r):∃v h',r= .val v h':=by
 unfold sQ at e;split at e<;>cases e;exact⟨_,_,rfl⟩
theorem Xt{x:AV}(e:Da E h t x=some r):∃v h',r= .val v h':=by
 unfold Da at e;split at e
 .obtain⟨_,e⟩:=cK e;cases e;exact⟨_,_,rfl⟩
 .cases e
theorem FM{l:Nat}{ps:List (Nat×AV)}(e:iG E h t l ps=some r):∃v h',r= .val v h':=by
 unfold iG at e;split at e
 .split at e
  .obtain⟨_,e⟩:=cK e;exact Ga e λa=>⟨_,_,rfl⟩
  .cases e
 .cases e
theorem O7{a v:AV}(e:fU E h t a v=some r):∃v h',r= .val v h':=by
 unfold fU at e;split at e
 .obtain⟨_,e⟩:=cK e
  obtain⟨_,e⟩:=iF e;exact Ga e λa=>⟨_,_,rfl⟩
 .cases e
theorem GX{l c:AV}(e:eF E h t l c=some r):∃v h',r= .val v h':=by
 unfold eF at e;split at e
 .split at e
  .obtain⟨_,rfl⟩:=dV e;exact⟨_,_,rfl⟩
  .cases e
 .cases e
theorem K4{x:Option AV}(e:j5 E h t x=some r):∃v h',r= .val v h':=by
 unfold j5 at e;split at e
 .cases e;exact⟨_,_,rfl⟩
 .split at e<;>cases e;exact⟨_,_,rfl⟩
 .cases e
theorem yV{m k x:AV}(e:iZ E h t m k x=some r):∃v h',r= .val v h':=by
 unfold iZ at e;split at e
 .split at e
  .split at e<;>cases e<;>exact⟨_,_,rfl⟩
  .cases e
 .cases e
theorem IW{m k:AV}(e:nH E h t m k=some r):∃v h',r= .val v h':=by
 unfold nH at e;split at e
 .split at e
  .split at e
   .cases e
   .split at e<;>cases e;exact⟨_,_,rfl⟩
   .cases e;exact⟨_,_,rfl⟩
  .cases e
 .cases e
theorem FH{m s x:AV}(e:kD h m s x=some r):∃v h',r= .val v h':=by
 unfold kD at e;split at e
 .split at e
  .split at e<;>cases e;exact⟨_,_,rfl⟩
  .cases e
 .cases e
theorem Pk{x:AV}(e:wh E h t x=some r):∃v h',r= .val v h':=by
 unfold wh at e;split at e
 .cases e;exact⟨_,_,rfl⟩
 .cases e;exact⟨_,_,rfl⟩
 .split at e<;>cases e;exact⟨_,_,rfl⟩
 .cases e
theorem NZ{m k:AV}(e:xW E h t m k=some r):∃v h',r= .val v h':=by
 unfold xW at e;split at e
 .obtain⟨_,e⟩:=dV e
  exact⟨_,_,e.symm⟩
 .split at e
  .split at e<;>cases e<;>exact⟨_,_,rfl⟩
  .cases e
 .cases e
theorem P8{m:AV}(e:xZ E h t m=some r):∃v h',r= .val v h':=by
 unfold xZ at e;split at e
 .split at e<;>cases e;exact⟨_,_,rfl⟩
 .split at e
  .obtain⟨_,e⟩:=cK e
   exact Ga e λa=>⟨_,_,rfl⟩
  .cases e
 .cases e
theorem BX{m k:AV}(e:lM E h t m k=some r):∃v h',r= .val v h':=by
 unfold lM at e;split at e
 .obtain⟨_,rfl⟩:=dV e;exact⟨_,_,rfl⟩
 .split at e
  .obtain⟨_,e⟩:=iF e
   split at e
   .exact Ga e λa=>⟨_,_,rfl⟩
   .cases e
  .cases e
 .cases e
theorem V8(f:Of K P E)(F:Fits P E)(S:Sat K Y h w){b:Builtin}{as:List AV}{ts:List TypeId}{r:OR}{args:Array Value}{tys:Array TypeId}{ty:TypeId}{cs:Array Bool}
 (e:jv E h b as ts=some r)(a:dJ Y as args.toList)(l:tys.toList=ts):ROk P K Y h w (builtin b tys ty cs args) r:=by
 obtain⟨tys⟩:=tys;obtain⟨args⟩:=args;simp only at a l;subst l;unfold jv at e;split at e
 .split at e
  .rename_i s x t u
   obtain⟨v1,r1,rfl,h1,c⟩:=aX a;obtain⟨v2,r2,rfl,g,i⟩:=aX c;obtain rfl:=bJ i;cases a:nM E h t u (l9 E s) (l9 E x)with
   |none=>rw[a]at e;cases e
   |some p=>rw[a]at e;cases e;exact(Qg F f S a (DK S f h1) (DK S f g)).next
  .cases e
 .split at e
  .rename_i d s t j
   obtain⟨v1,r1,rfl,h1,c⟩:=aX a;obtain⟨v2,r2,rfl,g,i⟩:=aX c;obtain rfl:=bJ i;cases a:JN E h t (l9 E d) (l9 E s)with
   |none=>rw[a]at e;cases e
   |some p=>
    rw[a]at e;cases e;have:=(WX (tx:=t) (ty:=ty) F f S a (DK S f h1) (DK S f g)).next
    exact this
  .cases e
 .split at e
  .rename_i m k t j
   obtain⟨v1,r1,rfl,h1,c⟩:=aX a;obtain⟨v2,r2,rfl,g,i⟩:=aX c;obtain rfl:=bJ i;obtain⟨v,h',rfl⟩:=NZ e;have:=(P6 (ty:=ty) F S e h1 g).next
   exact this
  .cases e
 .split at e
  .rename_i m t j
   obtain⟨v1,r1,rfl,h1,c⟩:=aX a;obtain rfl:=bJ c;obtain⟨v,h',rfl⟩:=P8 e;have:=(Uw (ty:=ty) F S e h1).next
   exact this
  .cases e
 .split at e
  .rename_i p n t j
   obtain⟨v1,r1,rfl,h1,c⟩:=aX a;obtain⟨v2,r2,rfl,g,i⟩:=aX c;obtain rfl:=bJ i;obtain⟨v,h',rfl⟩:=BX e;have:=(DJ (tn:=t) (ty:=ty) F f.P S e h1 g).next
   exact this
  .cases e
 .cases e
theorem Nw{a:AV}{m:String}{args:List AV}(e:Gf E a m args=some r):∃t v g,a= .iface t v∧(t,m,g)∈E.M7∧r= .call g (v::args):=by
 unfold Gf at e;split at e
 .rename_i t v
  split at e
  .rename_i p hp
   cases e;have h1:=List.find?_some hp;have b:=List.mem_of_find?_eq_some hp;rw[av]at h1;obtain⟨c,d,g⟩:=p;have e1:c=t:=ak h1.1;have e2:d=m:=by simpa using h1.2
   subst e1;subst e2;exact⟨_,_,_,rfl,b,rfl⟩
  .cases e
 .cases e
theorem aj.yP{c:Type}{a:α}{w1:World}(h1:aj P s w a w1 [])(f:α->Sem c)(b:Array Event):(s>>=f).runT P w b=(f a).runT P w1 b:=by
 have:b++([]:List Event).toArray=b:=by simp
 rw[runT_bind,h1 b,this]
theorem Xo(J:Of K P E)(F:Fits P E)(S:Sat K Y h w)(o:∀x,RV Y (ev X x) (Z x)){c:Call}{ty:TypeId}{r:OR}(k:AU c E X h=some r):ROk P K Y h w (do let d ← resolve Z c ty;invoke d.target d.args) r:=by
 unfold AU at k;have e:dJ Y (evs X c.args.toList) (c.args.map Z).toList:=by simpa using uh o c.args.toList
 split at k
 .rename_i b y
  have h1:=V8 (ty:=ty) (cs:=c.args.map λ| .const _=>true|_=>false) (args:=c.args.map Z) (tys:=c.argTypes) J F S k e rfl;have hr:∀w,aj P (resolve Z c ty) w { target:= .builtin b c.argTypes ty (c.args.map λ| .const _=>true|_=>false),args:=c.args.map Z } w []:=by
   intro w;unfold resolve;rw[y];exact aj.pure _
  have j:∀f,((do let d ← resolve Z c ty;invoke d.target d.args):Sem Next).runT P w f=(builtin b c.argTypes ty (c.args.map λ| .const _=>true|_=>false) (c.args.map Z)).runT P w f:=by
   intro f;rw[aj.yP (hr w)];rfl
  have conv:∀{v:AV} {h':AH},X3 P K Y h w (builtin b c.argTypes ty (c.args.map λ| .const _=>true|_=>false) (c.args.map Z)) v h'->X3 P K Y h w (do let d ← resolve Z c ty;invoke d.target d.args) v h':=by
   intro v h' q C;obtain⟨ι',w',nx,es,k1,L⟩:=q C;exact⟨ι',w',nx,es,λf=>by rw[j f];exact k1 f,L⟩
  cases r with
  |val v h'=>exact conv h1
  |alts l=>obtain⟨p,hp,n⟩:=h1;exact⟨p,hp,conv n⟩
  |call g args=>obtain⟨vs,n,z⟩:=h1;exact⟨vs,n,λf=>by rw[j f];exact z f⟩
  |yield id args=>obtain⟨p,vs,n,z,M⟩:=h1;exact⟨p,vs,n,z,λf=>by rw[j f];exact M f⟩
  |rz a=>
   obtain⟨d,n,z⟩:=h1;exact⟨d,λf=>by rw[j f];exact n f,z⟩
  |stop=>trivial
 .rename_i g y
  have A:=o g;unfold Sn at k;split at k
  .rename_i i first cap q
   cases k;rw[q]at A;obtain⟨I,cs,s,C,D⟩:=wB A;refine⟨(I++c.args.map Z)++cs,?_,λf=>?_⟩
   .simp only[dz]
    exact(C.append e).append D
   .have hr:aj P (resolve Z c ty) w { target:= .fn (.func i) cs,args:=I++c.args.map Z } w []:=by
     unfold resolve;rw[y];simp only[s];exact aj.pure _
    rw[aj.yP hr];rfl
  .rename_i l q
   cases k;rw[q]at A;unfold RV at A;obtain⟨p,hp,s⟩:=A;refine⟨p,c.args.map Z,hp,e,λf=>?_⟩;have hr:aj P (resolve Z c ty) w { target:= .fn (.yield p.1) #[],args:=#[]++c.args.map Z } w []:=by
    unfold resolve;rw[y];simp only[s];exact aj.pure _
   rw[aj.yP hr];have:(#[]:Array Value)++c.args.map Z=c.args.map Z:=by simp
   rw[this];rfl
  .cases k
 .rename_i N m y
  obtain⟨t,v,g,G,O,rfl⟩:=Nw k;have hr:=o N;rw[G]at hr;obtain⟨u,Q,q⟩:=xk hr;refine⟨#[u]++c.args.map Z,?_,λf=>?_⟩
  .simp only[dz]
   exact bQ q e
  .have H:aj P (resolve Z c ty) w { target:= .fn (.method m) #[],args:=#[.iface t u]++c.args.map Z } w []:=by
    unfold resolve;rw[y];simp only[Q];exact aj.pure _
   rw[aj.yP H];have h1:(#[Value.iface t u]++c.args.map Z)[0]? =some (.iface t u):=by rw[Array.getElem?_append_left (by simp)];rfl
   have n:(#[Value.iface t u]++c.args.map Z).extract 1 (#[Value.iface t u]++c.args.map Z).size=c.args.map Z:=by
    apply bU.1;simp;exact jk (by simp)
   have B:invoke (.fn (.method m) #[]) (#[.iface t u]++c.args.map Z)=callMethod (.iface t u) m (c.args.map Z):=by
    unfold invoke;simp only[h1];rw[n]
   simp only;rw[B];unfold callMethod;simp only;rw[aj.yP aj.program,aj.yP (F.M7 t m g O u w)]
set_option maxHeartbeats 2000000 in
theorem Ad(B:Of K P E)(F:Fits P E)(S:Sat K Y h w)(j:∀x,RV Y (ev X x) (Z x)){o:Oper}(e:fV o.op E X h=some r):ROk P K Y h w (execOp Z o) r:=by
 unfold execOp;cases D:o.op<;>rw[D]at e
 case alloc t=>
  have n:sQ E h t=some r:=e;obtain⟨v,h',rfl⟩:=Qh n;exact(UA F S n).next
 case box t x=>
  have n:Da E h t (ev X x)=some r:=e;obtain⟨v,h',rfl⟩:=Xt n;exact(ZM S n (j x)).next
 case buildSlice t l ps=>
  have n:iG E h t l (OU X ps.toList)=some r:=e;obtain⟨v,h',rfl⟩:=FM n;have u:RVp Y (OU X ps.toList) (ps.map λ(i,x)=>(i,Z x)).toList:=by
   have:=LM j ps.toList;simpa using this
  exact(Ia (vs:=ps.map λ(i,x)=>(i,Z x)) F S n u).next
 case store t a x=>
  have n:fU E h t (ev X a) (ev X x)=some r:=e;obtain⟨v,h',rfl⟩:=O7 n;exact vV.next (Tn F S n (j a) (j x))
 case insert t m k x=>
  have n:iZ E h t (ev X m) (ev X k) (ev X x)=some r:=e;obtain⟨v,h',rfl⟩:=yV n;exact vV.next (AB F S n (j m) (j k) (j x))
 case mapUpdate t m k x=>
  have n:iZ E h t (ev X m) (ev X k) (ev X x)=some r:=e;obtain⟨v,h',rfl⟩:=yV n;exact vV.next (AB F S n (j m) (j k) (j x))
 case mapEntry t m k=>
  have n:nH E h t (ev X m) (ev X k)=some r:=e;obtain⟨v,h',rfl⟩:=IW n;exact(KZ F S n (j m) (j k)).next
 case entryStore t m s x=>
  have n:kD h (ev X m) (ev X s) (ev X x)=some r:=e;obtain⟨v,h',rfl⟩:=FH n;exact vV.next (Hy S n (j m) (j s) (j x))
 case convert s d x=>
  have n:E8 E s d (ev X x) h=some r:=e;obtain⟨v,h',rfl,h1⟩:=Xa F B S n (j x);exact h1.next
 case makeMap t x=>
  have n:j5 E h t (Lr X x)=some r:=e;obtain⟨v,h',rfl⟩:=K4 n;exact(Nb F S n (Gp j x)).next
 case makeSlice t l c=>
  have n:eF E h t (ev X l) (ev X c)=some r:=e;obtain⟨v,h',rfl⟩:=GX n;exact(IZ F S n (j l) (j c)).next
 case range t x=>
  have n:wh E h t (ev X x)=some r:=e;obtain⟨v,h',rfl⟩:=Pk n;exact(TG F S n (j x)).next
 case next it isS=>
  have n:ET h (ev X it) isS=some r:=e;have:=V3 (P:=P) (ty:=o.type) S n (j it);cases r with
  |val v h'=>
   have h1:fI P K Y h w _ _ _:=this;exact h1.next
  |alts l=>
   obtain⟨p,hp,h1⟩:=this;exact⟨p,hp,h1.next⟩
  |_=>exact this.elim
 case call c=>exact Xo (ty:=o.type) B F S j e
 case go c=>cases e;trivial
 case defer c=>
  have n:(match c.callee with
   | .value g=>(match ev X g with
     | .fn f a b=>some (OR.rz ⟨.fn f a b,evs X c.args.toList⟩)
     |_=>none)
   |_=>none)=some r:=e
  split at n
  .rename_i g G
   split at n
   .rename_i f a b H
    cases n;have C:=j g;rw[H]at C;obtain⟨y,cs,z,I,A⟩:=wB C;have q:dJ Y (evs X c.args.toList) (c.args.map Z).toList:=by simpa using uh j c.args.toList
    refine⟨{ target:= .fn (.func f) cs,args:=y++c.args.map Z },?_,y.toList,(c.args.map Z).toList,cs,I,q,A,by simp⟩;refine aj.aG (a:={ target:= .fn (.func f) cs,args:=y++c.args.map Z }) ?_ (aj.pure _);unfold resolve;rw[G];simp only[z];exact aj.pure _
   .cases n
  .cases n
 all_goals (cases e)
end
end
section
open Go.Conc (G)
variable{fr:Frame}{nx:Next}{tm:Tr AV}{tmps:Array Value}{u:Value}{v:AV}
def EOk(P:Program)(K:Ctx)(ι:Nm)(h:AH)(w:World)(s:Sem Next)(v:AV)(h':AH):Prop:=Free ι h.nx h'.nx->
 ∃ι' w' nx es,aj P s w nx w' es∧Grow ι ι' h.nx h'.nx∧Sat K ι' h' w'∧Yields ι' v nx∧(∀fn,iA K w w' (seen P fn es.toArray)∧deafBehind h.df (seen P fn es.toArray)=h'.df)
structure dM(P:Program)(E:Env):Prop where
 code : ∀ g c n rs x, E.ft.get g = some ⟨some c, n, rs, x⟩ → ∃ fn, P.funcs[g]? = some fn ∧ fn.body = some c ∧ fn.ntmps = n ∧ fn.results.toList = rs ∧ (fn.name == "runtime.NumGoroutine") = false
 ext:∀g n rs x,E.ft.get g=some ⟨none,n,rs,x⟩->∀(K:Ctx) ι h w args (vs:Array Value) v h',Of K P E->Sat K ι h w->dJ ι args vs.toList->Lm x args h=some (.val v h')->EOk P K ι h w (callFunc g vs) v h'
 mixed:P.follows .mixedOrders=true
 acR:P.follows .rangeFuncRecover=P.follows .rangeFuncRecover
section
variable{P:Program}{Y:Bool}{K:Ctx}{Z:Nm}{h:AH}{w:World}{E:Env}
theorem Sat.CK{w':World}{h':AH}{ι':Nm}(S:Sat K Z h w)(a:Sat K ι' h' w'){es:List Event}(b:jI K w w' es)(fn:FuncId):iA K w w' (seen P fn es.toArray):=
 ⟨b.size,b.kept,λe c=> .inl (b.evs e (by simpa using Conc.mem_seen c)),a.os.trans S.os.symm,a.tape.trans S.tape.symm,a.output.trans S.output.symm⟩
theorem iA.refl(w:World):iA K w w #[]:=⟨ah _,λ_ _ _=>rfl,by simp,rfl,rfl,rfl⟩
theorem iA.drawn(w:World)(d:Nat):iA K w { w with drawn:=d } #[]:=⟨ah _,λ_ _ _=>rfl,by simp,rfl,rfl,rfl⟩
theorem X3.ext{s:Sem Next}{h':AH}(S:Sat K Z h w)(c:X3 P K Z h w s v h'):EOk P K Z h w s v h':=λd=>by
 obtain⟨ι',w',nx,es,h1,e,a,f,b,g⟩:=c d;exact⟨ι',w',nx,es,h1,e,a,f,λfn=>⟨S.CK a b fn,by rw[mP b.evs,g]⟩⟩
theorem NOk.ext{s:Sem Next}(S:Sat K Z h w)(b:NOk P K Z w s v):EOk P K Z h w s v h:=λ_=>by
 obtain⟨u,es,h1,c,a⟩:=b;exact⟨Z,w,.value u,es,h1,Grow.refl _ _,S,c,λfn=>⟨S.CK S (jI.refl K w a) fn,by rw[mP a]⟩⟩
def yv:Next->Value
 | .value v=>v
 |_=>undef
def Waits(Z:Nm)(f:AF)(dst:Option Tmp)(fr:Frame):Prop:=
 ∀ι' v u,Ext Z ι'->RV ι' v u->RF ι' ⟨f.x,fin f.x dst v f.tm,f.todo,f.ds,false⟩ (fr.finish u)
structure ql(Z:Nm)(x:AX)(tm:Tr AV)(ds:List AD)(ops:Array Oper)(i:Nat)(rest:List Nat)(k':List Item)(fr:Frame):Prop where
 fn:fr.fn=x.fn
 tm:RT Z x.nt tm fr.tmps
 todo:fr.todo= .inRegion ops (i::rest)::k'
 ds:UM Z ds fr.defers
 mode:fr.mode= .run
 kind:fr.kind=if x.deferred then .deferred else .normal
 round:match x.round with |none=>fr.roundOf=none|some id=>∃p,Z id=some p∧fr.roundOf=some p.1
structure iQ(Z:Nm)(x:AX)(tm:Tr AV)(ds:List AD)(ops:Array Oper)(rest:List Nat)(k':List Item)(fr:Frame):Prop where
 fn:fr.fn=x.fn
 tm:RT Z x.nt tm fr.tmps
 todo:fr.todo= .inRegion ops rest::k'
 ds:UM Z ds fr.defers
 mode:fr.mode= .run
 kind:fr.kind=if x.deferred then .deferred else .normal
 round:match x.round with |none=>fr.roundOf=none|some id=>∃p,Z id=some p∧fr.roundOf=some p.1
theorem pY{ι':Nm}(a:Ext Z ι'){x:AX}{r:Option Nat}(h:match x.round with |none=>r=none|some id=>∃p,Z id=some p∧r=some p.1):
 match x.round with |none=>r=none|some id=>∃p,ι' id=some p∧r=some p.1:=by
 split at h
 .exact h
 .obtain⟨p,h1,b⟩:=h;exact⟨p,a _ _ h1,b⟩
theorem Zo{Z:Nm}{x:AX}(h:RT Z x.nt tm tmps)(d:Option Tmp)(a:RV Z v u):
 RT Z x.nt (fin x d v tm) (match d with |some d=>tmps.setIfInBounds d u|none=>tmps):=by
 cases d with
 |none=>exact h
 |some d=>exact h.put a
theorem ql.finish{x:AX}{tm:Tr AV}{ds:List AD}{a:Array Oper}{i:Nat}{b:List Nat}{d:List Item}{fr:Frame}(H:ql Z x tm ds a i b d fr){o:Oper}(e:a[i]? =some o)
 {ι':Nm}(c:Ext Z ι'){v:AV}{u:Value}(f:RV ι' v u):iQ ι' x (fin x o.dst v tm) ds a b d (fr.finish u):=by
 have g:(a[i]?).bind (·.dst)=o.dst:=by rw[e];rfl
 unfold Frame.finish;rw[H.todo];simp only[g];refine⟨H.fn,?_,rfl,H.ds.mono c,H.mode,H.kind,pY c H.round⟩;exact Zo (H.tm.mono c) o.dst f
theorem wN {x : AX} {tm : Tr AV} {ds : List AD} {ops : Array Oper} {i : Nat} {rest : List Nat} {k' : List Item} {fr : Frame} {cs : List Frame} (H : ql Z x tm ds ops i rest k' fr)
 (hw : ∀ o, ops[i]? = some o → Region.wanted o (yielded ops fr.tmps) = false) : stepG P Y (G fr cs) w = .go (G (fr.finish undef) cs) w #[] := by
 have hm := H.mode
 have ht := H.todo
 have : ((ops[i]?).map (Region.wanted · (yielded ops fr.tmps))).getD false = false := by
  cases ho : ops[i]? with
  | none => rfl
  | some o => simp [hw o ho]
 simp [G, stepG, hm, stepG.exec, ht, this]
theorem nE {x : AX} {tm : Tr AV} {ds : List AD} {ops : Array Oper} {i : Nat} {rest : List Nat} {k' : List Item} {fr : Frame} {cs : List Frame} (H : ql Z x tm ds ops i rest k' fr) {o : Oper} (ho : ops[i]? = some o)
 (hw : Region.wanted o (yielded ops fr.tmps) = true) (hd : fr.roundOf = none ∨ ∀ c, o.op ≠ .defer c) : stepG P Y (G fr cs) w = stepG.apply P true fr cs none (execOp fr.eval o) w := by
 have hm := H.mode
 have ht := H.todo
 have h1 : ((ops[i]?).map (Region.wanted · (yielded ops fr.tmps))).getD false = true := by simp [ho, hw]
 have h2 : fr.oper? = some o := by unfold Frame.oper?; rw [ht]; exact ho
 have h3 : stepG.oper P true fr cs none w = stepG.apply P true fr cs none (execOp fr.eval o) w := by
  unfold stepG.oper
  rw [h2]
  simp only
  rcases hd with hd | hd
  · rw [hd]
  · cases hr : fr.roundOf with
    | none => rfl
    | some l =>
      cases hop : o.op <;> first
       | rfl
       | exact absurd hop (hd _)
 have h4 : stepG P Y (G fr cs) w = stepG.exec P Y true fr cs none w := by
  simp [G, stepG, hm]
 rw [h4]
 unfold stepG.exec
 simp only [ht]
 rw [if_pos h1]
 exact h3
theorem je{x:AX}{k:CallKind}(a:k=if x.deferred then .deferred else .normal):(k==CallKind.early)=false:=by
 subst a;cases x.deferred<;>rfl
theorem uf{x:AX}{tm:Tr AV}{ds:List AD}{b:Array Oper}{i:Nat}{a:List Nat}{c:List Item}{fr:Frame}{cs:List Frame}(H:ql Z x tm ds b i a c fr){s:Sem Next}{nx:Next}{w':World}{es:List Event}
 (d:aj P s w nx w' es){v:AV}{ι':Nm}(e:Yields ι' v nx):stepG.apply P true fr cs none s w= .go (G (fr.finish (yv nx)) cs) w' (seen P fr.fn es.toArray):=by
 have f:=je H.kind;have hr:=d #[];simp only[fG]at hr;unfold stepG.apply;simp only[if_true,hr,f];cases nx with
 |value u=>simp[GStep.after,G,yv]
 |skip=>simp[GStep.after,G,yv]
 |_=>exact e.elim
theorem sN{cs:List Frame}{s a:Sem Next}(h:s.runT P w #[]=a.runT P w #[]):stepG.apply P true fr cs none s w=stepG.apply P true fr cs none a w:=by
 unfold stepG.apply;simp only[if_true,h]
theorem Yields.rv(h:Yields Z v nx):RV Z v (yv nx):=by
 cases nx<;>first|exact h|exact h.elim
end
end
section
open Go.Conc (G)
section
variable{P:Program}{main:Bool}{K:Ctx}{Z:Nm}{h:AH}{w:World}{E:Env}
theorem getD_some{tmps:Array Value}{d:Nat}{v:Value}(h:tmps.getD d undef=v)(a:v≠undef):tmps[d]? =some v:=by
 rw[bf]at h;cases b:tmps[d]? with
 |none=>rw[b]at h;exact aP h.symm a
 |some x=>rw[b]at h;exact fZ some h
theorem jQ{o:Oper}{ops:Array Oper}{nt:Nat}{tm:Tr AV}{tmps:Array Value}(l:RT Z nt tm tmps){b:Bool}(e:eX o ops tm=some b):Region.wanted o (yielded ops tmps)=b:=by
 unfold eX at e;unfold Region.wanted;split at e
 .rename_i f;rw[f];exact aI e
 .rename_i p f
  rw[f];obtain⟨j,c⟩:=p;simp only at e ⊢;unfold PO at e;unfold yielded;split at e
  .rename_i hj;rw[hj];cases e;rfl
  .rename_i r hj
   rw[hj];simp only[Option.bind_some];split at e
   .rename_i g;rw[g];cases e;rfl
   .rename_i d g
    rw[g];simp only[Option.bind_some];split at e
    .rename_i b' k
     have a:=l.2 d _ k;unfold RV at a;have:=getD_some a (by unfold undef;simp);rw[this];cases e;cases c<;>cases b'<;>rfl
    .rename_i k
     have a:=l.2 d _ k;unfold RV at a;obtain⟨cs,a,m⟩:=a;have n:=bJ m;cases e;rw[bf]at a;cases q:tmps[d]? with
     |none=>rfl
     |some x=>
      rw[q]at a;have:x= .tuple cs:=a;subst this;rfl
    .cases e
def GoTo(P:Program)(main:Bool)(K:Ctx)(Z:Nm)(h:AH)(w:World)(fr:Frame)(cs:List Frame)(T:Nm->Frame->Prop)(h':AH):Prop:=Free Z h.nx h'.nx->
 ∃ι' a w' es,stepG P main (G fr cs) w= .go (G a cs) w' es∧Grow Z ι' h.nx h'.nx∧Sat K ι' h' w'∧T ι' a∧iA K w w' es∧deafBehind h.df es=h'.df
def Yh(P:Program)(main:Bool)(K:Ctx)(Z:Nm)(h:AH)(w:World)(fr:Frame)(cs:List Frame)(W:Nm->Frame->Prop)(g:FuncId)(args:List AV)(kind:CallKind)(h':AH):Prop:=Free Z h.nx h'.nx->
 ∃ι' a vs w' es,stepG P main (G fr cs) w= .go (G (Frame.enter P g vs kind) (a::cs)) w' es∧Grow Z ι' h.nx h'.nx∧Sat K ι' h' w'∧dJ ι' args vs.toList∧W ι' a∧iA K w w' es∧deafBehind h.df es=h'.df
def LJ(P:Program)(main:Bool)(K:Ctx)(Z:Nm)(w:World)(fr:Frame)(cs:List Frame)(id:Nat)(args:List AV)(h:AH):Prop:=
 ∀g,qb h id args=some g->∃a es,stepG P main (G fr cs) w= .go (G a (fr::cs)) w es∧iA K w w es∧deafBehind h.df es=h.df∧RF Z g a
theorem OO{nt:Nat}:∀{ps:List Nat} {args:List AV} {vs:List Value} {tm:Tr AV} {tmps:Array Value},RT Z nt tm tmps->dJ Z args vs->
 RT Z nt (Q0 (ps.zip args) nt tm) ((ps.zip vs).foldl (λtmps (t,a)=>tmps.setIfInBounds t a) tmps)
 |[],_,_,_,_,h,_=>h
 |p::ps,[],vs,_,_,h,b=>by
  rw[bJ b];exact h
 |p::ps,a::l,vs,_,_,h,b=>by
  obtain⟨v,r,rfl,h1,c⟩:=aX b;exact OO (ps:=ps) (h.put h1) c
section op
variable{x:AX}{W:Tr AV}{U:List AD}{Y:Array Oper}{i:Nat}{X:List Nat}{V:List Item}{fr:Frame}{cs:List Frame}{o:Oper}
theorem z8(S:Sat K Z h w)(H:ql Z x W U Y i X V fr)(d:Y[i]? =some o)(e:Region.wanted o (yielded Y fr.tmps)=true)(f:fr.roundOf=none∨∀c,o.op≠.defer c)
 {s:Sem Next}(g:(execOp fr.eval o).runT P w #[]=s.runT P w #[]){v:AV}{h':AH}(j:EOk P K Z h w s v h')(k:True):
 Free Z h.nx h'.nx->∃ι' u w' es,stepG P main (G fr cs) w= .go (G (fr.finish u) cs) w' es∧Grow Z ι' h.nx h'.nx∧Sat K ι' h' w'∧RV ι' v u∧iA K w w' es∧deafBehind h.df es=h'.df:=λl=>by
 obtain⟨ι',w',nx,es,h1,m,n,a,b⟩:=j l;refine⟨ι',yv nx,w',seen P fr.fn es.toArray,?_,m,n,a.rv,(b fr.fn).1,(b fr.fn).2⟩;rw[nE H d e f,sN g];exact uf H h1 a
theorem qO {g : FuncId} {vs : Array Value} {fn : Func} (a : P.funcs[g]? = some fn) (d : fn.body.isSome = true) (b : (fn.name == "runtime.NumGoroutine") = false) : aj P (callFunc g vs) w (.enter g vs) w [] := by
 unfold callFunc;refine aj.aG aj.program ?_;simp only[a,b];have:fn.body.isNone=false:=by cases c:fn.body<;>simp_all
 simp only[this];exact aj.pure _
theorem Jt(FF:dM P E)(H:ql Z x W U Y i X V fr)(b:Y[i]? =some o)(d:Region.wanted o (yielded Y fr.tmps)=true)(f:fr.roundOf=none∨∀c,o.op≠.defer c)
 {g:FuncId}{vs:Array Value}(j:(execOp fr.eval o).runT P w #[]=(callFunc g vs).runT P w #[]){c:Code}{n:Nat}{a:List ResultVar}{e:EX}(k:E.ft.get g=some ⟨some c,n,a,e⟩):
 stepG P main (G fr cs) w= .go (G (Frame.enter P g vs .normal) (fr::cs)) w #[]:=by
 obtain⟨fn,h1,l,_,_,m⟩:=FF.code g c n a e k;have hr:=qO (w:=w) (vs:=vs) h1 (by rw[l];rfl) m #[];rw[nE H b d f,sN j];have p:=je H.kind;unfold stepG.apply;simp only[if_true,hr,p,H.todo];simp[GStep.after,G,seen]
theorem TK(S:Sat K Z h w)(H:ql Z x W U Y i X V fr)(F:Y[i]? =some o)(I:Region.wanted o (yielded Y fr.tmps)=true)(J:fr.roundOf=none∨∀c,o.op≠.defer c)
 {id:Nat}{args:List AV}{p:Nat×Nat}{vs:Array Value}(hp:Z id=some p)(A:dJ Z args vs.toList)(M:(execOp fr.eval o).runT P w #[]=(Instr.yield p.1 vs).runT P w #[]):LJ P main K Z w fr cs id args h:=λg f=>by
 unfold qb at f;split at f
 .rename_i st pd fn nt n ps a b d j
  obtain⟨N,ob,k,r,s,u,v,y⟩:=S.at j trivial;obtain rfl:p=N:=by rw[hp]at k;exact aI k
  obtain⟨q,hq,L,rfl,e1,e2,O,Q,B,R,T,e8⟩:=y;cases z:Nat.beq args.length ps.length with
  |false=>rw[z]at f;cases f
  |true=>
   rw[z]at f;simp only[bA,bM]at f;subst f;have l:vs.size=L.params.size:=by
    have h1:=ak z;have h2:=A.length;rw[← B]at h1;simp at h1 h2;omega
   have m:aj P (Instr.yield p.1 vs) w (.round p.1 L.fn ((L.params.zip vs).foldl (λtmps (t,a)=>tmps.setIfInBounds t a) L.tmps) L.assign L.body) w [⟨.obj p.1,false,false⟩]:=by
    unfold Instr.yield;refine aj.bind (w1:=w) (e2:=[]) (e1:=[⟨.obj p.1,false,false⟩]) (a:=L) ?_ ?_
    .unfold Instr.getLoop
     have:=aj.getObj (P:=P) v (by simp);refine aj.bind (w1:=w) (e2:=[]) (e1:=[⟨.obj p.1,false,false⟩]) this ?_;exact aj.pure _
    .simp only[l,ne_eq,not_true_eq_false,if_false]
     exact aj.pure _
   have C:∀e∈[(⟨.obj p.1,false,false⟩:Event)],xE K w.heap.size e:=by
    intro e D;simp only[bR]at D;subst D;exact⟨r,s,u,rfl⟩
   refine⟨Frame.round p.1 L.fn ((L.params.zip vs).foldl (λtmps (t,a)=>tmps.setIfInBounds t a) L.tmps) L.assign L.body .normal,seen P fr.fn #[⟨.obj p.1,false,false⟩],?_,?_,?_,?_⟩
   .have hr:=m #[]
    have hk:=je H.kind;rw[nE H F I J,sN M];unfold stepG.apply;simp only[if_true,hr,hk];simp[GStep.after,G]
   .exact S.CK S (jI.refl K w C) fr.fn
   .exact mP C h.df
   .refine⟨O,?_,?_,rfl,rfl,rfl,⟨p,hp,rfl⟩⟩
    .show RT Z nt (Q0 (ps.zip args) nt n) _
     rw[← mY];rw[Array.toList_zip,B];exact OO Q A
    .exact⟨_,_,rfl,by show _=_;rw[R],_,_,rfl,rfl,_,_,rfl,by show _=_;rw[T],rfl⟩
 .cases f
end op
end
end
section
open Go.Conc (G)
variable{r:OR}
section
variable{P:Program}{main:Bool}{K:Ctx}{Z:Nm}{h:AH}{w:World}{E:Env}
variable{x:AX}{V:Tr AV}{T:List AD}{Y:Array Oper}{i:Nat}{X:List Nat}{U:List Item}{W:Frame}{cs:List Frame}{o:Oper}
theorem ql.Pg(H:ql Z x V T Y i X U W)(y:Operand):RV Z (ev V y) (W.eval y):=H.tm.ev W rfl y
theorem E5{c:Call}(a:o.op= .defer c):fA o.op E V h=none:=by rw[a];rfl
theorem quiet_step(g:Of K P E)(F:Fits P E)(S:Sat K Z h w)(H:ql Z x V T Y i X U W)(b:Y[i]? =some o)(j:Region.wanted o (yielded Y W.tmps)=true)
 {v:AV}(e:fA o.op E V h=some v):GoTo P main K Z h w W cs (λι' a=>iQ ι' x (fin x o.dst v V) T Y X U a) h:=λd=>by
 have k:W.roundOf=none∨∀c,o.op≠.defer c:= .inr λc l=>by rw[E5 l]at e;cases e
 obtain⟨ι',u,w',es,h1,f,m,n,p,q⟩:=z8 (main:=main) (cs:=cs) S H b j k rfl (NOk.ext S (MF g F S H.Pg e)) trivial d;exact⟨ι',_,w',es,h1,f,m,H.finish b (f.ext d) n,p,q⟩
theorem pz(e:fV o.op E V h=some r)(hr:∀a,r≠.rz a):∀c,o.op≠.defer c:=λc j=>by
 rw[j]at e;have d:(match c.callee with
  | .value g=>(match ev V g with
    | .fn f a b=>some (OR.rz ⟨.fn f a b,evs V c.args.toList⟩)
    |_=>none)
  |_=>none)=some r:=e
 split at d
 .split at d
  .cases d;exact hr _ rfl
  .cases d
 .cases d
theorem Cq(f:Of K P E)(F:Fits P E)(S:Sat K Z h w)(H:ql Z x V T Y i X U W)(b:Y[i]? =some o)(g:Region.wanted o (yielded Y W.tmps)=true)
 {v:AV}{h':AH}(e:fV o.op E V h=some (.val v h')):GoTo P main K Z h w W cs (λι' a=>iQ ι' x (fin x o.dst v V) T Y X U a) h':=λc=>by
 have j:=pz e (by simp);obtain⟨ι',u,w',es,h1,d,k,l,m,n⟩:=z8 (main:=main) (cs:=cs) S H b g (.inr j) rfl (X3.ext S (Ad f F S H.Pg e)) trivial c;exact⟨ι',_,w',es,h1,d,k,H.finish b (d.ext c) l,m,n⟩
theorem TV(f:Of K P E)(F:Fits P E)(S:Sat K Z h w)(H:ql Z x V T Y i X U W)(b:Y[i]? =some o)(g:Region.wanted o (yielded Y W.tmps)=true)
 {l:List (AV×AH)}(e:fV o.op E V h=some (.alts l)):∃p∈l,GoTo P main K Z h w W cs (λι' a=>iQ ι' x (fin x o.dst p.1 V) T Y X U a) p.2:=by
 have j:=pz e (by simp);obtain⟨p,hp,k⟩:=Ad f F S H.Pg e;refine⟨p,hp,λc=>?_⟩;obtain⟨ι',u,w',es,h1,d,m,n,q,r⟩:=z8 (main:=main) (cs:=cs) S H b g (.inr j) rfl (X3.ext S k) trivial c;exact⟨ι',_,w',es,h1,d,m,H.finish b (d.ext c) n,q,r⟩
theorem El(a:Of K P E)(F:Fits P E)(FF:dM P E)(S:Sat K Z h w)(H:ql Z x V T Y i X U W)(b:Y[i]? =some o)(d:Region.wanted o (yielded Y W.tmps)=true)
 {g:FuncId}{args:List AV}(e:fV o.op E V h=some (.call g args)){c:Code}{n:Nat}{f:List ResultVar}{ex:EX}(j:E.ft.get g=some ⟨some c,n,f,ex⟩):
 ∃vs:Array Value,dJ Z args vs.toList∧stepG P main (G W cs) w= .go (G (Frame.enter P g vs .normal) (W::cs)) w #[]:=by
 have k:=pz e (by simp);obtain⟨vs,h1,l⟩:=Ad a F S H.Pg e;exact⟨vs,h1,Jt FF H b d (.inr k) (l #[]) j⟩
theorem Nh(b:Of K P E)(F:Fits P E)(FF:dM P E)(S:Sat K Z h w)(H:ql Z x V T Y i X U W)(c:Y[i]? =some o)(k:Region.wanted o (yielded Y W.tmps)=true)
 {g:FuncId}{args:List AV}(e:fV o.op E V h=some (.call g args)){n:Nat}{d:List ResultVar}{ex:EX}(l:E.ft.get g=some ⟨none,n,d,ex⟩){v:AV}{h':AH}(m:Lm ex args h=some (.val v h')):
 GoTo P main K Z h w W cs (λι' a=>iQ ι' x (fin x o.dst v V) T Y X U a) h':=λf=>by
 have p:=pz e (by simp);obtain⟨vs,h1,q⟩:=Ad b F S H.Pg e;obtain⟨ι',u,w',es,r,j,s,t,y,z⟩:=z8 (main:=main) (cs:=cs) S H c k (.inr p) (q #[]) (FF.ext g n d ex l K Z h w args vs v h' b S h1 m) trivial f;exact⟨ι',_,w',es,r,j,s,H.finish c (j.ext f) t,y,z⟩
theorem G5(a:Of K P E)(F:Fits P E)(S:Sat K Z h w)(H:ql Z x V T Y i X U W)(b:Y[i]? =some o)(c:Region.wanted o (yielded Y W.tmps)=true)
 {id:Nat}{args:List AV}(e:fV o.op E V h=some (.yield id args)):LJ P main K Z w W cs id args h:=by
 have d:=pz e (by simp);obtain⟨p,vs,h1,f,g⟩:=Ad a F S H.Pg e;exact TK S H b c (.inr d) h1 f (g #[])
theorem V5(j:Of K P E)(F:Fits P E)(S:Sat K Z h w)(H:ql Z x V T Y i X U W)(g:Y[i]? =some o)(k:Region.wanted o (yielded Y W.tmps)=true)(hr:x.round=none)
 {a:AD}(e:fV o.op E V h=some (.rz a)):GoTo P main K Z h w W cs (λι' c=>iQ ι' x (fin x o.dst gH V) (a::T) Y X U c) h:=λ_=>by
 obtain⟨d,h1,l⟩:=Ad j F S H.Pg e;have f:W.roundOf=none:=by have:=H.round;rw[hr]at this;exact this
 have m:=je H.kind;have b:=h1 #[];simp only[fG]at b;refine⟨Z,({ W with defers:=d::W.defers }:Frame).finish undef,w,#[],?_,Grow.refl _ _,S,?_,iA.refl w,rfl⟩
 .rw[nE H g k (.inl f)]
  unfold stepG.apply;simp only[if_true,b,m];simp[GStep.after,G,seen]
 .have n:ql Z x V (a::T) Y i X U { W with defers:=d::W.defers }:=⟨H.fn,H.tm,H.todo,⟨d,W.defers,rfl,l,H.ds⟩,H.mode,H.kind,H.round⟩
  exact n.finish g (Ext.refl Z) kS
end
end
section
open Go.Conc (G)
variable{jump:Option Code}
section
variable{P:Program}{main:Bool}{K:Ctx}{Z:Nm}{h:AH}{w:World}{E:Env}
def OM(P:Program)(main:Bool)(K:Ctx)(Z:Nm)(h:AH)(w:World)(fr:Frame)(cs:List Frame)(v:AV)(h':AH):Prop:=
 ∃u w' es,stepG P main (G fr cs) w=GStep.after es (doReturn P main fr cs none u w')∧Sat K Z h' w'∧RV Z v u∧iA K w w' es∧deafBehind h.df es=h'.df∧h'.nx=h.nx
def wJ(P:Program)(main:Bool)(K:Ctx)(Z:Nm)(h:AH)(w:World)(fr:Frame)(cs:List Frame):A1->Prop
 | .go f' h'=>GoTo P main K Z h w fr cs (λι' a=>RF ι' f' a) h'
 | .alts l=>∃p∈l,GoTo P main K Z h w fr cs (λι' a=>RF ι' p.1 a) p.2
 | .call f' d g args h'=>Yh P main K Z h w fr cs (λι' a=>Waits ι' f' d a∧a.mode= .run) g args .normal h'
 | .dcall f' g args h'=>Yh P main K Z h w fr cs (λι' a=>RF ι' f' a∧a.mode= .returning) g args .deferred h'
 | .round f' d id args h'=>h'=h∧LJ P main K Z w fr cs id args h∧Waits Z f' d fr
 | .drawn x tm b k ds h'=>h'=h∧∃t d c,stepG P main (G fr cs) w= .go (G { fr with todo:= .inRegion b (Region.linearise .any b t)::c } cs) { w with drawn:=d } #[]∧Fx Z k c∧
  iQ Z x tm ds b (Region.linearise .any b t) c { fr with todo:= .inRegion b (Region.linearise .any b t)::c }
 | .ret v h'=>OM P main K Z h w fr cs v h'
 | .stop=>True
section
variable{x:AX}{W:Tr AV}{X:List AI}{V:List AD}{Y:Frame}{cs:List Frame}
theorem RF.runs(R:RF Z ⟨x,W,X,V,false⟩ Y):stepG P main (G Y cs) w=stepG.exec P main true Y cs none w:=by
 have a:Y.mode= .run:=by have:=R.mode;simpa using this
 simp[G,stepG,a]
theorem RF.to(R:RF Z ⟨x,W,X,V,false⟩ Y){a:List AI}{l:List Item}(b:Fx Z a l):RF Z ⟨x,W,a,V,false⟩ { Y with todo:=l }:=
 ⟨R.fn,R.tm,b,R.ds,R.mode,R.kind,R.round⟩
theorem jT(S:Sat K Z h w)(R:RF Z ⟨x,W,X,V,false⟩ Y){a:List AI}{l:List Item}(b:Fx Z a l)(c:stepG P main (G Y cs) w= .go (G { Y with todo:=l } cs) w #[]):
 wJ P main K Z h w Y cs (.go ⟨x,W,a,V,false⟩ h):=λ_=>
 ⟨Z,_,w,#[],c,Grow.refl _ _,S,R.to b,iA.refl w,rfl⟩
def Bv(P:Program)(main:Bool)(Y:Frame)(cs:List Frame)(w:World)(jump:Option Code):GStep:=
 match Y.roundOf with
 | none => if jump matches none | some .ret then .go (G { Y with mode := .returning } cs) w else .ended (.stuck "exit, goto: no such block or label" (Y.pos P)) w
 |some l=>
  let(r,es):=(Instr.endRound l jump).runT P w #[]
  GStep.after (seen P Y.fn es) <| match r with
  | .ok v w=>doReturn P main Y cs none v w
  | .halt _ w => .ended (.stuck "range over a function: no such loop" (Y.pos P)) w
theorem Cy(S:Sat K Z h w)(R:RF Z ⟨x,W,X,V,false⟩ Y){r:A1}(e:kX x W X V h jump=some r)(A:stepG P main (G Y cs) w=Bv P main Y cs w jump):
 wJ P main K Z h w Y cs r:=by
 unfold kX at e;have hr:=R.round;split at e
 .rename_i n
  rw[n]at hr;have hr:Y.roundOf=none:=hr;split at e
  all_goals first
   |(cases e;done)
   |(cases e
     refine λ_=>⟨Z,{ Y with mode:= .returning },w,#[],?_,Grow.refl _ _,S,⟨R.fn,R.tm,R.todo,R.ds,rfl,R.kind,R.round⟩,iA.refl w,rfl⟩;rw[A];unfold Bv;rw[hr];rfl)
 .rename_i l n
  rw[n]at hr;obtain⟨p,hp,hr⟩:=hr;have hr:Y.roundOf=some p.1:=hr;split at e
  .rename_i st pd fn nt t ps a b d c
   cases e;obtain⟨F,ob,g,o,s,u,j,v⟩:=S.at c trivial;obtain rfl:p=F:=by rw[hp]at g;exact aI g
   obtain⟨q,H,L,rfl,e1,e2,I,J,M,N,O,Q⟩:=v;have y:RO K.P Z p.2 (.loop (cond jump.isNone .ready .done) jump fn nt t ps a b d) (.loop { L with state:=if jump.isNone then .ready else .done,pending:=jump }):=
    ⟨q,H,_,rfl,by cases jump<;>rfl,rfl,I,J,M,N,O,Q⟩
   have k:=jS (P:=P) S hp c trivial j (by simp) y rfl;obtain⟨ι',w',es,T,U,B,g4,g5⟩:=k (λi h1 h2=>by rw[AH.qF]at h2;omega);have z:ι'=Z:=by
    funext i;refine U.same i ?_;rw[AH.qF];omega
   subst z;have m:aj P (Instr.endRound p.1 jump) w (.bool jump.isNone) w' ([⟨.obj p.1,false,false⟩]++es):=by
    unfold Instr.endRound;refine aj.bind (w1:=w) (e1:=[⟨.obj p.1,false,false⟩]) (e2:=es) (a:=L) ?_ ?_
    .unfold Instr.getLoop
     exact aj.bind (w1:=w) (e2:=[]) (e1:=[⟨.obj p.1,false,false⟩]) (aj.getObj (P:=P) j (by simp)) (aj.pure _)
    .have:=aj.bind (e2:=[]) T (aj.pure (P:=P) (w:=w') (Value.bool jump.isNone)) (f:=λ_=>Pure.pure (Value.bool jump.isNone))
     simpa using this
   have C:jI K w w' ([⟨.obj p.1,false,false⟩]++es):=by
    have h0:jI K w w [(⟨.obj p.1,false,false⟩:Event)]:=jI.refl K w (by intro e D;simp only[bR]at D;subst D;exact⟨o,s,u,rfl⟩);exact h0.trans g4
   refine⟨.bool jump.isNone,w',seen P Y.fn ([(⟨.obj p.1,false,false⟩:Event)]++es).toArray,?_,B,by unfold RV;rfl,S.CK B C Y.fn,by rw[mP C.evs,AH.uI],AH.qF⟩;rw[A];unfold Bv;rw[hr];have:=m #[];simp only[fG]at this;simp only[this]
  .cases e
end
end
end
section
open Go.Conc (G)
variable{nt:Nat}{tmps:Array Value}
section
variable{P:Program}{Z:Bool}{K:Ctx}{Y:Nm}{h:AH}{w:World}{E:Env}
variable{x:AX}{W:Tr AV}{X:List AI}{V:List AD}{fr:Frame}{cs:List Frame}
theorem KX(F:Fits P E)(n:Of K P E)(S:Sat K Y h w)(k:RT Y nt W tmps):∀{d:List ResultVar} {l:List AV},GK E d W h=some l->
 ∃vs es,aj P (d.mapM λr=>match r with | .tmp t=>(Pure.pure (tmps.getD t undef):Sem Value)| .cell a t=>do loadVar t (← asAddr (tmps.getD a undef))) w vs w es∧dJ Y l vs∧∀e∈es,xE K w.heap.size e:=by
 intro d;induction d with
 |nil=>intro l e;cases e;exact⟨[],[],aj.pure _,bS,by simp⟩
 |cons r d m=>
  intro l e;cases r with
  |tmp t=>
   simp only[GK]at e;split at e
   .rename_i o b
    cases e;obtain⟨vs,es,h1,g,i⟩:=m b;refine⟨_::vs,es,?_,bQ (k.ev { (default:Frame)with tmps:=tmps } rfl (.tmp t)) g,i⟩;rw[List.mapM_cons];refine aj.aG (aj.pure _) ?_;have:=aj.bind h1 (aj.pure (P:=P) (w:=w) (tmps.getD t undef::vs)) (f:=λx=>Pure.pure (tmps.getD t undef::x));rw[bD]at this;exact this
   .cases e
  |cell a t=>
   simp only[GK]at e;split at e
   .rename_i id off hv
    split at e
    .rename_i v q
     split at e
     .rename_i o b
      cases e;obtain⟨vs,es,h1,g,i⟩:=m b;have hp:=k.ev { (default:Frame)with tmps:=tmps } rfl (.tmp a);rw[hv]at hp;obtain⟨p,hp,c⟩:=iV hp;have c:tmps.getD a undef= .pointer (some ⟨p.1,off,none⟩):=c;obtain⟨u,j,s,y,z⟩:=Dq S n F hp q;refine⟨u::vs,j++es,?_,bQ y g,λe A=>(bF.1 A).elim (z e) (i e)⟩;rw[List.mapM_cons];refine aj.bind (w1:=w) (a:=u) ?_ ?_
      .simp only[c]
       refine aj.aG (a:=⟨p.1,off,none⟩) ?_ s;unfold asAddr;exact aj.pure _
      .have:=aj.bind h1 (aj.pure (P:=P) (w:=w) (u::vs)) (f:=λx=>Pure.pure (u::x))
       rw[bD]at this;exact this
     .cases e
    .cases e
   .cases e
def VB:List AV->AV
 |[v]=>v
 |l=> .bV l
theorem GJ(F:Fits P E)(k:Of K P E)(S:Sat K Y h w)(m:RT Y nt W tmps){fn:Func}{d:List ResultVar}(c:fn.results.toList=d){l:List AV}(e:GK E d W h=some l):
 ∃v es,aj P (results fn tmps) w v w es∧RV Y (VB l) v∧∀e∈es,xE K w.heap.size e:=by
 obtain⟨vs,es,h1,g,n⟩:=KX F k S m e;refine⟨if h:vs.toArray.size=1 then vs.toArray[0]else .tuple vs.toArray,es,?_,?_,n⟩
 .unfold results
  have o:aj P (fn.results.mapM λ
   | .tmp t=>(Pure.pure (tmps.getD t undef):Sem Value)
   | .cell a t=>do loadVar t (← asAddr (tmps.getD a undef))) w vs.toArray w es:=by
   rw[Array.mapM_eq_mapM_toList,c];have:=aj.bind h1 (aj.pure (P:=P) (w:=w) vs.toArray) (f:=λx=>Pure.pure x.toArray);rw[bD]at this;exact this
  have:=aj.bind o (aj.pure (P:=P) (w:=w) (if h:vs.toArray.size=1 then vs.toArray[0]else Value.tuple vs.toArray)) (f:=λvs=>Pure.pure (if h:vs.size=1 then vs[0]else Value.tuple vs));rw[bD]at this;exact this
 .cases l with
  |nil=>
   rw[bJ g];unfold RV;exact⟨#[],rfl,bS⟩
  |cons a l=>
   obtain⟨v,r,rfl,i,j⟩:=aX g;cases l with
   |nil=>
    rw[bJ j];exact i
   |cons b l=>
    obtain⟨p,q,rfl,s,u⟩:=aX j;have:¬(v::p::q).toArray.size=1:=by simp
    rw[dif_neg this];show RV Y (.bV (a::b::l)) _;unfold RV;exact⟨_,rfl,bQ i (bQ s u)⟩
theorem zM(R:RF Y ⟨x,W,X,V,true⟩ fr):stepG P Z (G fr cs) w=unwind P Z fr cs none w:=by
 have a:fr.mode= .returning:=by have:=R.mode;simpa using this
 simp[G,stepG,a]
theorem pV{d:Deferred}{g:FuncId}{c:Array Value}(i:d.target= .fn (.func g) c){s:Sem Next}(k:(callFunc g (d.args++c)).runT P w #[]=s.runT P w #[]){nx:Next}{w':World}{es:List Event}(hr:aj P s w nx w' es):
 callDeferred P fr cs none d w=GStep.after (seen P fr.fn es.toArray) (match nx with
  | .enter f args=> .go (G (Frame.enter P f args .deferred) (fr::cs)) w'
  | .value _=> .go (G fr cs) w'
  | .skip=> .go (G fr cs) w'
  |nx=>match callDeferred P fr cs none d w with | .go g w es=> .go g w es|s=>s)∨(¬∃v,nx= .value v)∧nx≠.skip∧∀f a,nx≠.enter f a:=by
 by_cases j:(¬∃v,nx= .value v)∧nx≠.skip∧∀f a,nx≠.enter f a
 .exact .inr j
 .left
  have b:=hr #[];simp only[fG]at b;have e:(invoke d.target d.args).runT P w #[]=(.ok nx w',es.toArray):=by
   rw[i];show(callFunc g (d.args++c)).runT P w #[]=_;rw[k,b]
  unfold callDeferred;rw[au (by rw[i];simp)];simp only[e];cases nx with
  |value v=>rfl
  |skip=>rfl
  |enter f a=>rfl
  |_=>exact aP ⟨by simp,by simp,by simp⟩ j
theorem aa2(hP:Of K P E)(F:Fits P E)(FF:dM P E)(S:Sat K Y h w)(R:RF Y ⟨x,W,X,V,true⟩ fr){r:A1}(e:Kz E x W X V h=some r):wJ P Z K Y h w fr cs r:=by
 have hm:fr.mode= .returning:=by have:=R.mode;simpa using this
 unfold Kz at e;split at e
 .rename_i _ d Q
  obtain⟨d',s,hd,h1,T⟩:=R.ds;split at e
  .rename_i U
   split at e
   .rename_i id i
    split at e
    .rename_i q
     cases e;unfold RD at h1;rw[U]at h1;obtain⟨p,hp,rfl⟩:=h1 id i;obtain⟨p',ob,C,hb1,hb2,hb3,D,t⟩:=S.at q trivial;obtain rfl:p=p':=by rw[hp]at C;exact aI C
     have t:ob= .deferred (some []):=t;subst t;have H:=jS (P:=P) S hp q trivial D (by simp) (o:= .rz true) (ob:= .deferred none) rfl rfl;intro k;obtain⟨ι',w',es,I,y,z,O,g5⟩:=H k;have J:aj P (Instr.takeDeferred p.1) w [] w' ([(⟨.obj p.1,false,false⟩:Event)]++es):=by
      unfold Instr.takeDeferred;refine aj.bind (w1:=w) (e1:=[⟨.obj p.1,false,false⟩]) (e2:=es) (aj.getObj (P:=P) D (by simp)) ?_;have:=aj.bind (e2:=[]) I (aj.pure (P:=P) (w:=w') ([]:List Deferred)) (f:=λ_=>Pure.pure ([]:List Deferred));simpa using this
     have L:jI K w w' ([(⟨.obj p.1,false,false⟩:Event)]++es):=
      (jI.refl K w (by intro e he;simp only[bR]at he;subst he;exact⟨hb1,hb2,hb3,rfl⟩):jI K w w [(⟨.obj p.1,false,false⟩:Event)]).trans O
     refine⟨ι',{ fr with defers:=s },w',seen P fr.fn ([(⟨.obj p.1,false,false⟩:Event)]++es).toArray,?_,y,z,?_,S.CK z L fr.fn,by rw[mP L.evs,AH.uI]⟩
     .rw[zM R]
      unfold unwind;rw[hd];have:=J #[];simp only[fG]at this;simp only[this];simp[GStep.after,G]
     .have m:=y.ext k
      exact⟨R.fn,R.tm.mono m,R.todo.mono m,T.mono m,R.mode,R.kind,pY m R.round⟩
    .cases e
   .cases e
  .rename_i g first cap U
   unfold RD at h1;rw[U]at h1;obtain⟨A,as,c,ha1,ha2,ha3,rfl⟩:=h1;have R':RF Y ⟨x,W,X,Q,true⟩ { fr with defers:=s }:=⟨R.fn,R.tm,R.todo,T,R.mode,R.kind,R.round⟩;have i:dJ Y (first++d.args++cap) ((A++as).toArray++c).toList:=by
    simp only[dz];exact(ha1.append ha2).append ha3
   have hu:stepG P Z (G fr cs) w=callDeferred P { fr with defers:=s } cs none { target:= .fn (.func g) c,args:=(A++as).toArray } w:=by
    rw[zM R];unfold unwind;rw[hd]
   split at e
   .rename_i c0 n B ex M
    cases e;obtain⟨fn,k1,k2,_,_,k5⟩:=FF.code g c0 n B ex M;have hr:=qO (w:=w) (vs:=(A++as).toArray++c) k1 (by rw[k2];rfl) k5;rcases pV (cs:=cs) (fr:={ fr with defers:=s }) (d:={ target:= .fn (.func g) c,args:=(A++as).toArray }) rfl rfl hr with j|j
    .intro _
     refine⟨Y,{ fr with defers:=s },(A++as).toArray++c,w,#[],?_,Grow.refl _ _,S,i,⟨R',hm⟩,iA.refl w,rfl⟩;rw[hu,j];simp[GStep.after,seen]
    .exact aP rfl (j.2.2 _ _)
   .rename_i n B ex M
    split at e
    .rename_i v h' hx
     cases e;intro k;obtain⟨ι',w',nx,es,I,y,z,O,g5⟩:=FF.ext g n B ex M K Y h w _ ((A++as).toArray++c) v h' hP S i hx k;rcases pV (cs:=cs) (fr:={ fr with defers:=s }) (d:={ target:= .fn (.func g) c,args:=(A++as).toArray }) rfl rfl I with j|j
     .have m:=y.ext k
      refine⟨ι',{ fr with defers:=s },w',seen P fr.fn es.toArray,?_,y,z,⟨R.fn,R.tm.mono m,R.todo.mono m,T.mono m,R.mode,R.kind,pY m R.round⟩,(g5 fr.fn).1,(g5 fr.fn).2⟩;rw[hu,j];cases nx with
      |value u=>simp[GStep.after]
      |skip=>simp[GStep.after]
      |_=>exact O.elim
     .cases nx with
      |value u=>exact aP ⟨_,rfl⟩ j.1
      |skip=>exact aP rfl j.2.1
      |_=>exact O.elim
    .cases e;trivial
    .cases e
   .cases e
  .cases e
 .have hds:fr.defers=[]:=R.ds
  split at e
  .rename_i c n B ex M
   obtain⟨fn,k1,k2,_,k4,_⟩:=FF.code x.fn c n B ex M;have key:∀{l:List AV},GK E B W h=some l->OM P Z K Y h w fr cs (VB l) h:=by
    intro l N;obtain⟨v,es,I,y,z⟩:=GJ F hP S R.tm k4 N;refine⟨v,w,seen P fr.fn es.toArray,?_,S,y,S.CK S (jI.refl K w z) fr.fn,mP z h.df,rfl⟩;rw[zM R];unfold unwind;rw[hds];have:=I #[];simp only[fG]at this;have hfn:P.funcs[fr.fn]? =some fn:=by rw[R.fn];exact k1
    simp only[hm,hfn,this]
   cases N:GK E B W h with
   |none=>rw[N]at e;cases e
   |some l=>
    rw[N]at e;have:=key N
    match l,e,this with
    |[],e,this=>cases e;exact this
    |[v],e,this=>cases e;exact this
    |a::b::l,e,this=>cases e;exact this
  .cases e
end
end
section
open Go.Conc (G)
variable{g:FuncId}{j:Nat}{ops:Array Oper}
section
variable{P:Program}{Z:Bool}{K:Ctx}{Y:Nm}{h:AH}{w:World}{E:Env}
variable{x:AX}{W:Tr AV}{U:List AI}{T:List AD}{X:Frame}{V:List Frame}
theorem iQ.rf{k:List AI}{a:List Item}{U:List Oper}(H:iQ Y x W T ops ((List.range ops.size).drop j) a X)(b:Fx Y k a)(c:U=ops.toList.drop j):RF Y ⟨x,W,JE ops U k,T,false⟩ X:=
 ⟨H.fn,H.tm,by rw[H.todo];exact⟨_,_,rfl,⟨j,c,rfl⟩,b⟩,H.ds,by simpa using H.mode,H.kind,H.round⟩
theorem Xm(l:Of K P E)(F:Fits P E)(FF:dM P E)(S:Sat K Y h w){b:List Oper}{k:List AI}{m:List Item}(H:ql Y x W T ops j ((List.range ops.size).drop (j+1)) m X){o:Oper}(d:ops[j]? =some o)
 (a:b=ops.toList.drop (j+1))(p:Fx Y k m)(q:Region.wanted o (yielded ops X.tmps)=true){args:List AV}(s:fV o.op E W h=some (.call g args)){r:A1}(e:H8 E x W o.dst (JE ops b k) T h g args=some r):wJ P Z K Y h w X V r:=by
 unfold H8 at e;split at e
 .rename_i c n A ex f
  cases e;obtain⟨vs,h1,B⟩:=El (main:=Z) (cs:=V) l F FF S H d q s f;exact λ_=>⟨Y,X,vs,w,#[],B,Grow.refl _ _,S,h1,⟨λι' v u t C=>(H.finish d t C).rf (p.mono t) a,H.mode⟩,iA.refl w,rfl⟩
 .rename_i n A ex f
  unfold Uk at e;split at e
  .rename_i v h' D
   cases e;intro y;obtain⟨ι',i,w',es,G,z,I,J,L⟩:=Nh (main:=Z) (cs:=V) l F FF S H d q s f D y;exact⟨ι',i,w',es,G,z,I,J.rf (p.mono (z.ext y)) a,L⟩
  .cases e;trivial
  .cases e
 .cases e
theorem abp(B:Of K P E)(F:Fits P E)(FF:dM P E)(S:Sat K Y h w){d:List Oper}{k:List AI}{I:List Item}(H:ql Y x W T ops j ((List.range ops.size).drop (j+1)) I X){o:Oper}(n:ops[j]? =some o)
 (b:d=ops.toList.drop (j+1))(C:Fx Y k I)(D:Region.wanted o (yielded ops X.tmps)=true){r:A1}(e:YP E x W (JE ops d k) T h o=some r):wJ P Z K Y h w X V r:=by
 unfold YP at e;split at e
 .rename_i v G
  cases e;intro i;obtain⟨ι',c,w',es,s,m,t,y,z⟩:=quiet_step (main:=Z) (cs:=V) B F S H n D G i;exact⟨ι',c,w',es,s,m,t,y.rf (C.mono (m.ext i)) b,z⟩
 .cases A:fV o.op E W h with
  |none=>rw[A]at e;cases e
  |some q=>
   rw[A]at e;cases q with
   |val v h'=>
    cases e;intro i;obtain⟨ι',c,w',es,s,m,t,y,z⟩:=Cq (main:=Z) (cs:=V) B F S H n D A i;exact⟨ι',c,w',es,s,m,t,y.rf (C.mono (m.ext i)) b,z⟩
   |call g args=>exact Xm B F FF S H n b C D A e
   |yield id args=>
    cases e;exact⟨rfl,G5 B F S H n D A,λι' v u J G=>(H.finish n J G).rf (C.mono J) b⟩
   |rz a=>
    simp only[Rz]at e;split at e
    .rename_i hr
     cases e;intro i;obtain⟨ι',c,w',es,s,m,t,y,z⟩:=V5 (main:=Z) (cs:=V) B F S H n D hr A i;exact⟨ι',c,w',es,s,m,t,y.rf (C.mono (m.ext i)) b,z⟩
    .cases e
   |alts l=>
    cases e;obtain⟨p,hp,L⟩:=TV (main:=Z) (cs:=V) B F S H n D A;refine⟨(⟨x,fin x o.dst p.1 W,JE ops d k,T,false⟩,p.2),List.mem_map_of_mem (f:=λp=>((⟨x,fin x o.dst p.1 W,JE ops d k,T,false⟩:AF),p.2)) hp,λi=>?_⟩;obtain⟨ι',c,w',es,s,m,t,y,z⟩:=L i;exact⟨ι',c,w',es,s,m,t,y.rf (C.mono (m.ext i)) b,z⟩
   |stop=>cases e;trivial
theorem drop_cons{o:Oper}{a:List Oper}(e:o::a=ops.toList.drop j):ops[j]? =some o∧a=ops.toList.drop (j+1)∧(List.range ops.size).drop j=j::(List.range ops.size).drop (j+1):=by
 have hj:j<ops.toList.length:=by
  rcases aZ j ops.toList.length with h|h
  .exact h
  .rw[iD h]at e;cases e
 rw[bL hj]at e;injection e with e1 e2;refine⟨?_,e2,?_⟩
 .rw[e1];simp at hj ⊢
 .have b:j<(List.range ops.size).length:=by simpa using hj
  rw[bL b];simp
theorem Pj(n:Of K P E)(F:Fits P E)(FF:dM P E)(S:Sat K Y h w){b:Array Oper}{o:Oper}{c:List Oper}{k:List AI}(R:RF Y ⟨x,W,.inRegion b (o::c)::k,T,false⟩ X)
 {r:A1}(e:oC E x W T h k b o c=some r):wJ P Z K Y h w X V r:=by
 obtain⟨i,p,l,⟨j,hj,rfl⟩,m⟩:=R.todo;obtain⟨f,a,hr⟩:=drop_cons hj;rw[hr]at l;have H:ql Y x W T b j ((List.range b.size).drop (j+1)) p X:=⟨R.fn,R.tm,l,R.ds,by simpa using R.mode,R.kind,R.round⟩;unfold oC at e;split at e
 .rename_i g
  exact abp n F FF S H f a m (jQ R.tm g) e
 .rename_i g
  cases e;intro _;refine⟨Y,_,w,#[],wN H (λq d=>?_),Grow.refl _ _,S,(H.finish f (Ext.refl Y) kS).rf m a,iA.refl w,rfl⟩;rw[f]at d;cases d;exact jQ R.tm g
 .cases e
theorem Ls(S:Sat K Y h w)(R:RF Y ⟨x,W,U,T,false⟩ X){ps:Array Tmp}{a b:Code}{d:Nat}{h1:AH}{mark:List AD}
 (e:(match x.round with
  |some l=>(match h.obj l with | .loop _ _ _ _ _ _ _ _ d=>some (d,h,[])|_=>none)
  |none=>some (h.nx,h.new (.rz false),[AD.mk .nT [.ptr h.nx 0]]))=some (d,h1,mark)):
 Free Y h.nx (h1.new (.loop .ready none x.fn x.nt W ps.toList a b d)).nx->∃ι' w' l mk es,aj P (Instr.enterLoop X.fn X.tmps ps a b X.roundOf) w (l,mk) w' es∧Grow Y ι' h.nx (h1.new (.loop .ready none x.fn x.nt W ps.toList a b d)).nx∧
  Sat K ι' (h1.new (.loop .ready none x.fn x.nt W ps.toList a b d)) w'∧jI K w w' es∧(h1.new (.loop .ready none x.fn x.nt W ps.toList a b d)).df=h.df∧UM ι' mark mk∧∃p,ι' h1.nx=some p∧p.1=l:=λu=>by
 have hr:=R.round;have i:∀{c:Nm} {h1:AH} {w1:World} (r:Sat K c h1 w1) (k:c h1.nx=none) {q:Nat×Nat} (s:c d=some q) (D:Ext Y c),
  Sat K (upd c h1.nx (w1.heap.size,0)) (h1.new (.loop .ready none x.fn x.nt W ps.toList a b d)) { w1 with heap:=w1.heap.push (.loop { state:= .ready,pending:=none,fn:=X.fn,tmps:=X.tmps,params:=ps,assign:=a,body:=b,defers:=q.1 }) }:=by
  intro c h1 w1 r k q s D;refine r.Cn k (cap:=0) ?_;have f:=xV (p:=(w1.heap.size,0)) k;exact⟨q,f _ _ s,_,rfl,rfl,rfl,R.fn,(R.tm.mono D).mono f,rfl,rfl,rfl,rfl⟩
 split at e
 .rename_i l v
  rw[v]at hr;obtain⟨p,hp,hr⟩:=hr;split at e
  .rename_i st O fn nt t G Q b' d' m
   cases e;obtain⟨H,ob,n,y,z,A,B,C⟩:=S.at m trivial;obtain rfl:p=H:=by rw[hp]at n;exact aI n
   obtain⟨q,s,L,rfl,e1,e2,e3,e4,e5,e6,e7,I⟩:=C;have g:Y h.nx=none:=u _ (ah _) (by rw[AH.lQ];omega);refine⟨_,_,w.heap.size,[],[⟨.obj p.1,false,false⟩],?_,by rw[AH.lQ];exact Grow.upd,i S g s (Ext.refl Y),?_,AH.wu,rfl,(w.heap.size,0),nS _ _ _,rfl⟩
   .have hr:X.roundOf=some p.1:=hr
    rw[hr];unfold Instr.enterLoop;refine aj.bind (w1:=w) (e1:=[⟨.obj p.1,false,false⟩]) (e2:=[]) (a:=L) ?_ ?_
    .unfold Instr.getLoop
     exact aj.bind (w1:=w) (e2:=[]) (e1:=[⟨.obj p.1,false,false⟩]) (aj.getObj (P:=P) B (by simp)) (aj.pure _)
    .rw[I];exact aj.aG (aj.pure _) (aj.aG (aj.new _) (aj.pure _))
   .have h0:jI K w w [(⟨.obj p.1,false,false⟩:Event)]:=jI.refl K w (by intro e F;simp only[bR]at F;subst F;exact⟨y,z,A,rfl⟩)
    have:=h0.trans (jI.Cn (w:=w) (.loop { state:= .ready,pending:=none,fn:=X.fn,tmps:=X.tmps,params:=ps,assign:=a,body:=b,defers:=q.1 }) K);simpa using this
  .cases e
 .rename_i v
  rw[v]at hr;have hr:X.roundOf=none:=hr;cases e;have g:Y h.nx=none:=u _ (ah _) (by rw[AH.lQ,AH.lQ];omega);have r:=S.Cn g (o:= .rz false) (ob:= .deferred (some [])) (cap:=0) rfl;have f:Ext Y (upd Y h.nx (w.heap.size,0)):=xV g;have j:(upd Y h.nx (w.heap.size,0)) (h.new (.rz false)).nx=none:=by
   have e1:(h.new (.rz false)).nx=h.nx+1:=AH.lQ;rw[upd_ne (by omega)];exact u _ (by omega) (by have:((h.new (.rz false)).new (.loop .ready none x.fn x.nt W ps.toList a b h.nx)).nx=(h.new (.rz false)).nx+1:=AH.lQ
                                                                                               omega)
  have J:=i r j (nS Y h.nx (w.heap.size,0)) f;refine⟨_,_,w.heap.size+1,[{ target:= .collected w.heap.size,args:=#[] }],[],?_,?_,J,?_,by rw[AH.wu,AH.wu],⟨_,[],rfl,?_,rfl⟩,_,nS _ _ _,?_⟩
  .rw[hr]
   unfold Instr.enterLoop;refine aj.aG (aj.new _) ?_;refine aj.aG (aj.pure _) ?_;refine aj.aG (aj.new _) ?_;simp only[nD];exact aj.pure _
  .have M:Grow Y (upd Y h.nx (w.heap.size,0)) h.nx (h.new (.rz false)).nx:=by rw[AH.lQ];exact Grow.upd
   have N:∀p,Grow (upd Y h.nx (w.heap.size,0)) (upd (upd Y h.nx (w.heap.size,0)) (h.new (.rz false)).nx p) (h.new (.rz false)).nx ((h.new (.rz false)).new (.loop .ready none x.fn x.nt W ps.toList a b h.nx)).nx:=λp=>by
    rw[AH.lQ (h:=h.new (.rz false))];exact Grow.upd
   exact M.trans (N _)
  .have h0:=jI.Cn (w:=w) (.deferred (some [])) K
   have:=h0.trans (jI.Cn (w:={ w with heap:=w.heap.push (.deferred (some [])) }) (.loop { state:= .ready,pending:=none,fn:=X.fn,tmps:=X.tmps,params:=ps,assign:=a,body:=b,defers:=w.heap.size }) K);simpa using this
  .show RD _ ⟨.nT,[.ptr h.nx 0]⟩ _
   unfold RD;intro id hid;simp only[dO,AV.ptr.injEq,j6]at hid;subst hid;exact⟨(w.heap.size,0),xV j _ _ (nS _ _ _),rfl⟩
  .simp
end
end
section
open Go.Conc (G)
variable{f:AF}
section
variable{P:Program}{Z:Bool}{K:Ctx}{Y:Nm}{h:AH}{w:World}{E:Env}
variable{x:AX}{U:Tr AV}{W:List AI}{T:List AD}{X:Frame}{V:List Frame}
theorem KI(FF:dM P E)(S:Sat K Y h w){k:List AI}{g:Operand}{ps:Array Tmp}{a b:Code}(R:RF Y ⟨x,U,.code (.rangeFunc g ps a b)::k,T,false⟩ X)
 {r:A1}(e:qd E x U T h k g ps a b=some r):wJ P Z K Y h w X V r:=by
 obtain⟨i,k',ht,rfl,F⟩:=R.todo;have m:X.mode= .run:=by simpa using R.mode
 unfold qd at e;split at e
 .rename_i d h1 mark he
  split at e
  .rename_i i first cap hv
   split at e
   .rename_i c n rs ex hg
    cases e;intro M;obtain⟨ι',w',l,mk,es,h2,N,O,Q,h6,h7,p,hp,rfl⟩:=Ls (P:=P) (ps:=ps) (a:=a) (b:=b) S R he M;have A:=N.ext M;have q:=R.tm.ev X rfl g;rw[hv]at q;obtain⟨s,j,q,H,I⟩:=wB q;obtain⟨fn,k1,k2,_,_,k5⟩:=FF.code i c n rs ex hg;let f:Frame:={ X with todo:= .inRangeFunc p.1::k',defers:=mk++X.defers };have t:dJ ι' (first++[.yield h1.nx]++cap) ((s++#[Value.func (.yield p.1) #[] #[]])++j).toList:=by
     simp only[dz];refine((H.mono A).append (bQ ?_ bS)).append (I.mono A);unfold RV;exact⟨p,hp,rfl⟩
    refine⟨ι',f,(s++#[Value.func (.yield p.1) #[] #[]])++j,w',seen P X.fn es.toArray,?_,N,O,t,⟨λι'' v u o _=>?_,m⟩,S.CK O Q X.fn,by rw[mP Q.evs,h6]⟩
    .have hs:stepG P Z (G X V) w=stepG.exec P Z true X V none w:=by simp[G,stepG,m]
     rw[hs];unfold stepG.exec;simp only[ht];have hl:=h2 #[];simp only[fG]at hl;simp only[hl];have he1:∀y,f.eval y=X.eval y:=λy=>by cases y<;>rfl
     have B:aj P (resolve f.eval { callee:= .value g,args:=#[.const (.func (.yield p.1) #[] #[])],argTypes:=#[] } 0) w' { target:= .fn (.func i) j,args:=s++#[Value.func (.yield p.1) #[] #[]] } w' []:=by
      unfold resolve;simp only[he1,q];rw[show Array.map f.eval #[Operand.const (Value.func (Fn.yield p.1) #[] #[])]=#[Value.func (.yield p.1) #[] #[]]from by simp[Frame.eval]];exact aj.pure _
     have z:=aj.yP B (λd=>invoke d.target d.args) #[];have C:(invoke (.fn (.func i) j) (s++#[Value.func (.yield p.1) #[] #[]])).runT P w' #[]=(callFunc i (s++#[Value.func (.yield p.1) #[] #[]]++j)).runT P w' #[]:=rfl;have J:=qO (w:=w') (vs:=s++#[Value.func (.yield p.1) #[] #[]]++j) k1 (by rw[k2];rfl) k5 #[];have D:(resolve f.eval { callee:= .value g,args:=#[.const (.func (.yield p.1) #[] #[])],argTypes:=#[] } 0>>=λd=>invoke d.target d.args).runT P w' #[]=(.ok (.enter i (s++#[Value.func (.yield p.1) #[] #[]]++j)) w',#[]):=by
      rw[z];show(invoke (.fn (.func i) j) (s++#[Value.func (.yield p.1) #[] #[]])).runT P w' #[]=_;rw[C,J];simp
     have F:=je R.kind;have L:stepG.apply P true f V none (resolve f.eval { callee:= .value g,args:=#[.const (.func (.yield p.1) #[] #[])],argTypes:=#[] } 0>>=λd=>invoke d.target d.args) w'= .go (G (Frame.enter P i (s++#[Value.func (.yield p.1) #[] #[]]++j) .normal) (f::V)) w' #[]:=by
      unfold stepG.apply;simp only[if_true,D,f];simp[GStep.after,G,seen,F]
     have:=L;simp only[f]at this;rw[this];simp[GStep.after,f]
    .refine⟨R.fn,(R.tm.mono A).mono o,?_,?_,m,R.kind,pY o (pY A R.round)⟩
     .exact⟨_,_,rfl,⟨p,o _ _ hp,rfl⟩,(F.mono A).mono o⟩
     .exact((h7.append (R.ds.mono A))).mono o
   .cases e
  .cases e
 .cases e
theorem ZA(FF:dM P E)(S:Sat K Y h w){c:Code}{k:List AI}(R:RF Y ⟨x,U,.code c::k,T,false⟩ X){r:A1}(e:HY E c k x U T h=some r):wJ P Z K Y h w X V r:=by
 obtain⟨i,u,j,rfl,m⟩:=R.todo;have f:=RF.runs (P:=P) (main:=Z) (w:=w) (cs:=V) R;have p:X.mode= .run:=by simpa using R.mode
 have o:∀l,stepG.exec P Z true X V none w= .go (G { X with todo:=l } V) w->stepG P Z (G X V) w= .go (G { X with todo:=l } V) w #[]:=λl A=>by rw[f,A]
 cases c with
 |skip=>
  cases e;exact jT S R m (o _ (by unfold stepG.exec;simp only[j];rfl))
 |label n=>
  cases e;exact jT S R m (o _ (by unfold stepG.exec;simp only[j];rfl))
 |ret=>
  refine Cy S R (jump:=some .ret) e ?_;rw[f];unfold stepG.exec;simp only[j];unfold Bv;simp only[j];rfl
 |seq a b=>
  cases e;exact jT S R (.cons rfl (.cons rfl m)) (o _ (by unfold stepG.exec;simp only[j];rfl))
 |cond c a b=>
  have e:(match ev U c with
   | .bool t=>some (A1.go ⟨x,U,.code (cond t a b)::k,T,false⟩ h)
   |_=>none)=some r:=e
  split at e
  .rename_i t B
   cases e;have y:=R.tm.ev X rfl c;rw[B]at y;have y:X.eval c= .bool t:=pG y;refine jT S R (.cons (i:= .code (if t then a else b)) (by cases t<;>rfl) m) (o _ ?_);unfold stepG.exec;simp only[j,y];rfl
  .cases e
 |block id body=>
  cases e;exact jT S R (.cons rfl (.cons rfl m)) (o _ (by unfold stepG.exec;simp only[j];rfl))
 |loop body=>
  cases e;exact jT S R (.cons rfl (.cons rfl m)) (o _ (by unfold stepG.exec;simp only[j];rfl))
 |scope body=>
  cases e;exact jT S R (.cons rfl (.cons rfl m)) (o _ (by unfold stepG.exec;simp only[j];rfl))
 |exit id=>
  have e:(match yA id k with
   |some u=>some (A1.go ⟨x,U,u,T,false⟩ h)
   |none=>kX x U (.code (.exit id)::k) T h (some (.exit id)))=some r:=e
  split at e
  .rename_i C q
   cases e;obtain⟨D,h1,z⟩:=nZ q m;refine jT S R z (o _ ?_);unfold stepG.exec;simp only[j,h1];rfl
  .rename_i q
   have h1:=pF q m;refine Cy S R e ?_;rw[f];unfold stepG.exec;simp only[j,h1];unfold Bv;rfl
 |goto l=>
  have e:(match yw l k with
   |some u=>some (A1.go ⟨x,U,u,T,false⟩ h)
   |none=>kX x U (.code (.goto l)::k) T h (some (.goto l)))=some r:=e
  split at e
  .rename_i C q
   cases e;obtain⟨D,h1,z⟩:=nY q m;refine jT S R z (o _ ?_);unfold stepG.exec;simp only[j,h1];rfl
  .rename_i q
   have h1:=pE q m;refine Cy S R e ?_;rw[f];unfold stepG.exec;simp only[j,h1];unfold Bv;rfl
 |rangeFunc g ps a b=>exact KI FF S R e
 |region id F v=>
  cases v with
  |false=>
   cases e;exact jT S R (.cons ⟨0,rfl,rfl⟩ m) (o _ (by unfold stepG.exec;simp only[j];rfl))
  |true=>
   cases e;obtain⟨t,w',hr,⟨d,rfl⟩,_⟩:=aj.choose (P:=P) (w:=w) (.order X.fn id);refine⟨rfl,t,d,u,?_,m,⟨R.fn,R.tm,rfl,R.ds,p,R.kind,R.round⟩⟩;rw[f];unfold stepG.exec;simp only[j,Bool.not_true,gG,if_false,hr.run,FF.mixed];simp[Region.schedule,G]
 |refuse s=>cases e
def YG(p:Option Code)(k:List AI):List AI:=match p with |some c=> .code c::k|none=>k
def PL(st:LoopState):Bool:=match st with | .busy=>true|_=>false
theorem Y3 (hP : Of K P E) (F : Fits P E) (FF : dM P E) (S : Sat K Y h w) {i : AI} {k : List AI} (R : RF Y ⟨x, U, i :: k, T, false⟩ X) {r : A1} (e : RQ E i k x U T h = some r) : wJ P Z K Y h w X V r := by
 have hrun := RF.runs (P := P) (main := Z) (w := w) (cs := V) R
 have hmode : X.mode = .run := by simpa using R.mode
 have he : ∀ l, stepG.exec P Z true X V none w = .go (G { X with todo := l } V) w → stepG P Z (G X V) w = .go (G { X with todo := l } V) w #[] := fun l hl => by rw [hrun, hl]
 cases i with
 | code c => exact ZA FF S R e
 | inBlock id =>
   obtain ⟨i, k', ht, rfl, hk⟩ := R.todo
   cases e
   exact jT S R hk (he _ (by unfold stepG.exec; simp only [ht]; rfl))
 | inScope id =>
   obtain ⟨i, k', ht, rfl, hk⟩ := R.todo
   cases e
   exact jT S R hk (he _ (by unfold stepG.exec; simp only [ht]; rfl))
 | inLoop body =>
   obtain ⟨i, k', ht, rfl, hk⟩ := R.todo
   cases e
   exact jT S R (.cons rfl (.cons rfl hk)) (he _ (by unfold stepG.exec; simp only [ht]; rfl))
 | inRegion ops l =>
   cases l with
   | nil =>
     obtain ⟨i, k', ht, ⟨j, hj, rfl⟩, hk⟩ := R.todo
     cases e
     have hn : (List.range ops.size).drop j = [] := by
      apply List.drop_eq_nil_of_le
      have : ops.toList.length ≤ j := by
       rcases Nat.lt_or_ge j ops.toList.length with h | h
       · rw [List.drop_eq_getElem_cons h] at hj; cases hj
       · exact h
      simpa using this
     rw [hn] at ht
     exact jT S R hk (he _ (by unfold stepG.exec; simp only [ht]; rfl))
   | cons o rest => exact Pj hP F FF S R e
 | inRangeFunc id => cases e
 | endRangeFunc l =>
   obtain ⟨i, k', ht, ⟨p, hp, rfl⟩, hk⟩ := R.todo
   have e : (match h.obj l with
    | .loop st p fn nt t ps a b d => cond (PL st) none
     (some (A1.go ⟨x, U, YG p k, T, false⟩ (h.put l (.loop .exhausted p fn nt t ps a b d))))
    | _ => none) = some r := e
   split at e
   · rename_i st pd fn nt t ps a b d hobj
     obtain ⟨p', ob, hp', hb1, hb2, hb3, hb4, hb5⟩ := S.at hobj trivial
     obtain rfl : p = p' := by rw [hp] at hp'; exact Option.some.inj hp'
     obtain ⟨q, hq, L, rfl, e1, e2, e3, e4, e5, e6, e7, e8⟩ := hb5
     have hst : (st == LoopState.busy) = false := by
      cases st <;> first | rfl | cases e
     have e : A1.go ⟨x, U, YG pd k, T, false⟩ (h.put l (.loop .exhausted pd fn nt t ps a b d)) = r := by
      cases st <;> first | exact Option.some.inj e | cases e
     subst e
     have hro : RO K.P Y p.2 (.loop .exhausted pd fn nt t ps a b d) (.loop { L with state := .exhausted }) := ⟨q, hq, _, rfl, rfl, e2, e3, e4, e5, e6, e7, e8⟩
     have hset := jS (P := P) S hp hobj trivial hb4 (by simp) hro rfl
     intro hf
     obtain ⟨ι', w', es, g1, g2, g3, g4, g5⟩ := hset hf
     have hE := g2.ext hf
     have hr : aj P (Instr.endLoop p.1) w L.pending w' ([(⟨.obj p.1, false, false⟩ : Event)] ++ es) := by
      unfold Instr.endLoop
      refine aj.bind (w1 := w) (e1 := [⟨.obj p.1, false, false⟩]) (e2 := es) (a := L) ?_ ?_
      · unfold Instr.getLoop
        exact aj.bind (w1 := w) (e2 := []) (e1 := [⟨.obj p.1, false, false⟩]) (aj.getObj (P := P) hb4 (by simp)) (aj.pure _)
      · rw [e1, hst]
        have := aj.bind (e2 := []) g1 (aj.pure (P := P) (w := w') L.pending) (f := fun _ => Pure.pure L.pending)
        simpa using this
     have hfi : jI K w w' ([(⟨.obj p.1, false, false⟩ : Event)] ++ es) :=
      (jI.refl K w (by intro e he; simp only [List.mem_singleton] at he; subst he; exact ⟨hb1, hb2, hb3, rfl⟩) : jI K w w [(⟨.obj p.1, false, false⟩ : Event)]).trans g4
     refine ⟨ι', { X with todo := (L.pending.map Item.code).toList ++ k' }, w', seen P X.fn ([(⟨.obj p.1, false, false⟩ : Event)] ++ es).toArray, ?_, g2, g3, ?_, S.CK g3 hfi X.fn, by rw [mP hfi.evs, AH.uI]⟩
     · rw [hrun]
       unfold stepG.exec
       simp only [ht]
       have := hr #[]
       simp only [Array.empty_append] at this
       simp only [this]
       simp [GStep.after, G]
     · refine ⟨R.fn, R.tm.mono hE, ?_, R.ds.mono hE, R.mode, R.kind, pY hE R.round⟩
       rw [e2]
       cases pd with
       | none => exact hk.mono hE
       | some c => exact ⟨_, _, rfl, rfl, hk.mono hE⟩
   · cases e
 | rT ops n => cases e
 | beginRound =>
   obtain ⟨i, k', ht, rfl, hk⟩ := R.todo
   have e : (match x.round with
    | some l => (match h.obj l with
      | .loop .ready p fn nt t ps a b d => some (A1.go ⟨x, U, k, T, false⟩ (h.put l (.loop .busy p fn nt t ps a b d)))
      | _ => none)
    | none => none) = some r := e
   split at e
   · rename_i l hx
     have hr := R.round
     simp only [hx] at hr
     obtain ⟨p, hp, hr⟩ := hr
     split at e
     · rename_i pd fn nt t ps a b d hobj
       cases e
       obtain ⟨p', ob, hp', hb1, hb2, hb3, hb4, hb5⟩ := S.at hobj trivial
       obtain rfl : p = p' := by rw [hp] at hp'; exact Option.some.inj hp'
       obtain ⟨q, hq, L, rfl, e1, e2, e3, e4, e5, e6, e7, e8⟩ := hb5
       have hro : RO K.P Y p.2 (.loop .busy pd fn nt t ps a b d) (.loop { L with state := .busy }) := ⟨q, hq, _, rfl, rfl, e2, e3, e4, e5, e6, e7, e8⟩
       have hset := jS (P := P) S hp hobj trivial hb4 (by simp) hro rfl
       intro hf
       obtain ⟨ι', w', es, g1, g2, g3, g4, g5⟩ := hset hf
       have hE := g2.ext hf
       have hb : aj P (Instr.beginRound p.1) w () w' ([(⟨.obj p.1, false, false⟩ : Event)] ++ es) := by
        unfold Instr.beginRound
        refine aj.bind (w1 := w) (e1 := [⟨.obj p.1, false, false⟩]) (e2 := es) (a := L) ?_ ?_
        · unfold Instr.getLoop
          exact aj.bind (w1 := w) (e2 := []) (e1 := [⟨.obj p.1, false, false⟩]) (aj.getObj (P := P) hb4 (by simp)) (aj.pure _)
        · rw [e1]
          have := aj.bind (e2 := []) g1 (aj.pure (P := P) (w := w') ()) (f := fun _ => Pure.pure ())
          simpa using this
       have hs : aj P (do X.roundOf.elim (stuck "beginRound: no round") Instr.beginRound; Pure.pure Next.skip) w .skip w' ([(⟨.obj p.1, false, false⟩ : Event)] ++ es) := by
        rw [hr]
        have := aj.bind (e2 := []) hb (aj.pure (P := P) (w := w') Next.skip) (f := fun _ => Pure.pure Next.skip)
        simpa using this
       have hfi : jI K w w' ([(⟨.obj p.1, false, false⟩ : Event)] ++ es) :=
        (jI.refl K w (by intro e he; simp only [List.mem_singleton] at he; subst he; exact ⟨hb1, hb2, hb3, rfl⟩) : jI K w w [(⟨.obj p.1, false, false⟩ : Event)]).trans g4
       refine ⟨ι', { X with todo := k' }, w', seen P X.fn ([(⟨.obj p.1, false, false⟩ : Event)] ++ es).toArray, ?_, g2, g3, ?_, S.CK g3 hfi X.fn, by rw [mP hfi.evs, AH.uI]⟩
       · rw [hrun]
         unfold stepG.exec
         simp only [ht]
         have hk := je R.kind
         have := hs #[]
         simp only [Array.empty_append] at this
         unfold stepG.apply
         simp only [if_true, this, hk, ht]
         simp [GStep.after, G, Frame.finish, ht]
       · exact ⟨R.fn, R.tm.mono hE, hk.mono hE, R.ds.mono hE, R.mode, R.kind, pY hE R.round⟩
     · cases e
   · cases e
theorem step_ok(a:Of K P E)(F:Fits P E)(FF:dM P E)(S:Sat K Y h w)(R:RF Y f X){r:A1}(e:iw E f h=some r):wJ P Z K Y h w X V r:=by
 obtain⟨x,U,W,T,ret⟩:=f;cases ret with
 |true=>exact aa2 a F FF S R e
 |false=>
  cases W with
  |nil=>
   refine Cy S R (jump:=none) e ?_;have b:X.todo=[]:=R.todo;rw[RF.runs R];unfold stepG.exec;simp only[b];unfold Bv;simp only[b];rfl
  |cons i k=>exact Y3 a F FF S R e
end
end
section
variable{α:Type}{f:AF}{g:FuncId}{i id off:Nat}{isS:Bool}{o:AO}{ops:Array Oper}{t tx:TypeId}
section
variable{E:Env}{h:AH}
theorem qG:h.nx<=(h.put i o).nx:=by rw[AH.qF];exact ah _
theorem sP:h.nx<=(h.new o).nx:=by rw[AH.lQ];omega
def OR.Up(h:AH):OR->Prop
 | .val _ h'=>h.nx<=h'.nx
 | .alts l=>∀p∈l,h.nx<=p.2.nx
 |_=>True
theorem rC{vs:List AV}{h':AH}(e:dD h id off vs=some h'):h.nx<=h'.nx:=by
 unfold dD at e;split at e
 .rename_i l el g b
  cases a:(Nat.ble (off+vs.length) l.length&&lu vs)with
  |false=>rw[a]at e;cases e
  |true=>rw[a]at e;cases e;exact qG
 .cases e
theorem xM{x:Option α}{f:α->OR}{r:OR}(e:x.map f=some r)(b:∀a,x=some a->(f a).Up h):r.Up h:=by
 cases x with
 |none=>cases e
 |some a=>cases e;exact b a rfl
theorem gT{b:Bool}{x y:Option OR}{r:OR}(e:cond b x y=some r)(a:x=some r->r.Up h)(c:y=some r->r.Up h):r.Up h:=by
 cases b with
 |true=>exact a e
 |false=>exact c e
theorem Uz{t:TypeId}{r:OR}(e:sQ E h t=some r):r.Up h:=by
 unfold sQ at e;split at e
 .cases e;exact sP
 .cases e
theorem ZL{t:TypeId}{v:AV}{r:OR}(e:Da E h t v=some r):r.Up h:=by
 unfold Da at e;split at e
 .exact gT e (λe=>by cases e) (λe=>by cases e;exact sP)
 .cases e
theorem H9{t:TypeId}{l:Nat}{ps:List (Nat×AV)}{r:OR}(e:iG E h t l ps=some r):r.Up h:=by
 unfold iG at e
 repeat' split at e
 all_goals first
  |(cases e;done)
  |exact gT e (λe=>by cases e) (λe=>xM e λa _=>sP)
theorem Tm{t:TypeId}{a v:AV}{r:OR}(e:fU E h t a v=some r):r.Up h:=by
 unfold fU at e;split at e
 .exact gT e (λe=>by cases e) (λe=>gT e (λe=>xM e λa b=>rC b) (λe=>by cases e))
 .cases e
theorem IY{t:TypeId}{l c:AV}{r:OR}(e:eF E h t l c=some r):r.Up h:=by
 unfold eF at e
 repeat' split at e
 all_goals first
  |(cases e;done)
  |exact gT e (λe=>by cases e;exact sP) (λe=>by cases e)
theorem Na{t:TypeId}{x:Option AV}{r:OR}(e:j5 E h t x=some r):r.Up h:=by
 unfold j5 at e
 repeat' split at e
 all_goals first
  |(cases e;done)
  |(cases e;exact sP)
theorem AA{t:TypeId}{m k x:AV}{r:OR}(e:iZ E h t m k x=some r):r.Up h:=by
 unfold iZ at e
 repeat' split at e
 all_goals first
  |(cases e;done)
  |(cases e;exact qG)
theorem KY{t:TypeId}{m k:AV}{r:OR}(e:nH E h t m k=some r):r.Up h:=by
 unfold nH at e
 repeat' split at e
 all_goals first
  |(cases e;done)
  |(cases e;exact qG)
theorem Hw{m s x:AV}{r:OR}(e:kD h m s x=some r):r.Up h:=by
 unfold kD at e
 repeat' split at e
 all_goals first
  |(cases e;done)
  |(cases e;exact qG)
theorem TF{t:TypeId}{x:AV}{r:OR}(e:wh E h t x=some r):r.Up h:=by
 unfold wh at e
 repeat' split at e
 all_goals first
  |(cases e;done)
  |(cases e;exact sP)
theorem Pt{m a:Nat}{seen:List Nat}{last:Nat}{r:OR}(e:F8 h id m a seen last=some r):r.Up h:=by
 unfold F8 at e;split at e
 .refine gT e (λe=>by cases e) (λe=>gT e (λe=>?_) (λe=>by cases e))
  split at e
  .cases e;exact ah _
  .cases e
   intro p hp;obtain⟨x,_,rfl⟩:=bP.1 hp;exact qG
 .cases e
theorem VZ{it:AV}{r:OR}(e:ET h it isS=some r):r.Up h:=by
 unfold ET at e
 repeat' split at e
 all_goals first
  |(cases e;done)
  |(cases e;exact ah _)
  |exact Pt e
  |exact gT e (λe=>by cases e;exact qG) (λe=>by cases e)
theorem P5{m k:AV}{r:OR}(e:xW E h t m k=some r):r.Up h:=by
 unfold xW at e
 repeat' split at e
 all_goals first
  |(cases e;done)
  |(cases e;exact qG)
  |exact gT e (λe=>by cases e;exact ah _) (λe=>by cases e)
theorem Uv{m:AV}{r:OR}(e:xZ E h t m=some r):r.Up h:=by
 unfold xZ at e
 repeat' split at e
 all_goals first
  |(cases e;done)
  |(cases e;exact qG)
  |exact gT e (λe=>by cases e) (λe=>xM e λa b=>rC b)
theorem DI{p n:AV}{r:OR}(e:lM E h t p n=some r):r.Up h:=by
 unfold lM at e
 repeat' split at e
 all_goals first
  |(cases e;done)
  |exact gT e (λe=>by cases e;exact ah _) (λe=>by cases e)
  |exact gT e (λe=>xM e λa _=>qG) (λe=>by cases e)
  |exact gT e (λe=>by cases e) (λe=>by cases e)
theorem Qf{ts:TypeId}{s x:AV}{p:AV×AH}(e:nM E h ts tx s x=some p):h.nx<=p.2.nx:=by
 have gT:∀{b:Bool} {x y:Option (AV×AH)},cond b x y=some p->(x=some p->h.nx<=p.2.nx)->(y=some p->h.nx<=p.2.nx)->h.nx<=p.2.nx:=by
  intro b x y e c d;cases b with
  |true=>exact c e
  |false=>exact d e
 unfold nM at e;split at e
 .split at e
  .cases e
  .refine gT e (λe=>by cases e) (λe=>?_)
   split at e
   .cases e
   .refine gT e (λe=>by cases e) (λe=>?_)
    split at e
    .exact gT e (λe=>by cases e;exact ah _) (λe=>by cases e;exact sP)
    .refine gT e (λe=>?_) (λe=>gT e (λe=>by cases e) (λe=>?_))
     .cases a:dD h _ _ _ with
      |none=>rw[a]at e;cases e
      |some h'=>rw[a]at e;cases e;exact rC a
     .cases a:jw E h _ _ _ with
      |none=>rw[a]at e;cases e
      |some h'=>rw[a]at e;cases e;exact sP
    .refine gT e (λe=>by cases e) (λe=>?_)
     split at e
     .refine gT e (λe=>?_) (λe=>by cases e)
      cases e;exact aQ qG sP
     .cases e
    .cases e
 .cases e
theorem Ro{α:Type}{x:Option AH}{f:AH->AV×AH}{p:AV×AH}(e:x.map f=some p)(b:∀a,x=some a->h.nx<=(f a).2.nx):h.nx<=p.2.nx:=by
 cases x with
 |none=>cases e
 |some a=>cases e;exact b a rfl
theorem WW{td:TypeId}{d s:AV}{p:AV×AH}(e:JN E h td d s=some p):h.nx<=p.2.nx:=by
 unfold JN at e;split at e
 .split at e
  .cases e
  .split at e
   .dsimp only at e
    split at e
    .exact Ro (α:=Nat) e λa b=>rC b
    .cases e
   .dsimp only at e
    exact Ro (α:=Nat) e λa b=>rC b
   .cases e;exact ah _
   .cases e;exact ah _
   .cases e;exact ah _
   .cases e
 .cases e
theorem W9{s d:TypeId}{x:AV}{r:OR}(e:E8 E s d x h=some r):r.Up h:=by
 unfold E8 at e
 repeat' split at e
 all_goals first
  |(cases e;done)
  |(cases e;exact ah _)
  |exact gT e (λe=>by cases e;exact ah _) (λe=>by cases e)
  |exact gT e (λe=>by cases e;exact sP) (λe=>by cases e)
  |exact xM e λa _=>ah _
theorem V7{b:Builtin}{args:List AV}{ts:List TypeId}{r:OR}(e:jv E h b args ts=some r):r.Up h:=by
 unfold jv at e;split at e
 .split at e
  .exact xM e λp hp=>Qf hp
  .cases e
 .split at e
  .exact xM e λp hp=>WW hp
  .cases e
 .split at e
  .exact P5 e
  .cases e
 .split at e
  .exact Uv e
  .cases e
 .split at e
  .exact DI e
  .cases e
 .cases e
theorem Xn{tm:Tr AV}{c:Call}{r:OR}(e:AU c E tm h=some r):r.Up h:=by
 unfold AU at e;split at e
 .exact V7 e
 .unfold Sn at e
  split at e
  .cases e;trivial
  .cases e;trivial
  .cases e
 .unfold Gf at e
  split at e
  .split at e
   .cases e;trivial
   .cases e
  .cases e
theorem Ac{tm:Tr AV}{op:Op}{r:OR}(e:fV op E tm h=some r):r.Up h:=by
 cases op
 case alloc t=>exact Uz (E:=E) e
 case box t x=>exact ZL (E:=E) e
 case buildSlice t l ps=>exact H9 (E:=E) e
 case store t a x=>exact Tm (E:=E) e
 case insert t m k x=>exact AA (E:=E) e
 case mapUpdate t m k x=>exact AA (E:=E) e
 case mapEntry t m k=>exact KY (E:=E) e
 case entryStore t m s x=>exact Hw e
 case convert s d x=>exact W9 (E:=E) e
 case makeMap t x=>exact Na (E:=E) e
 case makeSlice t l c=>exact IY (E:=E) e
 case range t x=>exact TF (E:=E) e
 case next it isS=>exact VZ e
 case call c=>exact Xn (E:=E) e
 case go c=>cases e;trivial
 case defer c=>
  have i:(match c.callee with
   | .value g=>(match ev tm g with
     | .fn f a b=>some (OR.rz ⟨.fn f a b,evs tm c.args.toList⟩)
     |_=>none)
   |_=>none)=some r:=e
  split at i
  .split at i
   .cases i;trivial
   .cases i
  .cases i
 all_goals (cases e)
theorem Ll{x:EX}{args:List AV}{r:OR}(e:Lm x args h=some r):r.Up h:=by
 unfold Lm at e
 repeat' split at e
 all_goals first
  |(cases e;done)
  |(cases e;exact ah _)
  |(cases e;show h.nx<=(h.new _).nx;rw[AH.lQ];omega)
  |(cases e;trivial)
  |exact gT e (λe=>by cases e) (λe=>by cases e;exact ah _)
  |exact gT e (λe=>xM e λa b=>rC b) (λe=>by cases e)
  |exact gT e (λe=>by cases e;exact ah _) (λe=>by cases e)
  |exact gT e (λe=>gT e (λe=>xM e λa b=>rC b) (λe=>by cases e;exact ah _)) (λe=>by cases e)
def A1.Up(h:AH):A1->Prop
 | .go _ h'| .call _ _ _ _ h'| .dcall _ _ _ h'| .round _ _ _ _ h'| .drawn _ _ _ _ _ h'| .ret _ h'=>h.nx<=h'.nx
 | .alts l=>∀p∈l,h.nx<=p.2.nx
 | .stop=>True
section
variable{x:AX}{Z:Tr AV}{X W:List AI}{Y:List AD}{r:A1}
theorem Cx{j:Option Code}(e:kX x Z X Y h j=some r):r.Up h:=by
 unfold kX at e
 repeat' split at e
 all_goals first
  |(cases e;done)
  |(cases e;exact ah _)
  |(cases e;exact qG)
theorem YA(e:Kz E x Z X Y h=some r):r.Up h:=by
 unfold Kz at e
 repeat' split at e
 all_goals first
  |(cases e;done)
  |(cases e;exact qG)
  |(cases e;exact ah _)
  |(cases e;trivial)
  |(cases e;rename_i a;exact Ll a)
theorem Zt{d:Option Tmp}{o:Option OR}(a:∀q,o=some q->q.Up h)(e:Uk x Z d W Y o=some r):r.Up h:=by
 unfold Uk at e;split at e
 .cases e;exact a _ rfl
 .cases e;trivial
 .cases e
theorem Xl{d:Option Tmp}{args:List AV}(e:H8 E x Z d W Y h g args=some r):r.Up h:=by
 unfold H8 at e;split at e
 .cases e;exact ah _
 .exact Zt (λq a=>Ll a) e
 .cases e
theorem abo{o:Oper}(e:YP E x Z W Y h o=some r):r.Up h:=by
 unfold YP at e;split at e
 .cases e;exact ah _
 .cases b:fV o.op E Z h with
  |none=>rw[b]at e;cases e
  |some q=>
   have c:=Ac b;rw[b]at e;cases q with
   |val v h'=>cases e;exact c
   |call g args=>exact Xl e
   |yield l args=>cases e;exact ah _
   |rz a=>
    simp only[Rz]at e;split at e
    .cases e;exact ah _
    .cases e
   |alts l=>
    cases e;intro p hp;obtain⟨q,d,rfl⟩:=bP.1 hp;exact c q d
   |stop=>cases e;trivial
theorem Ph{k:List AI}{b:Array Oper}{o:Oper}{a:List Oper}(e:oC E x Z Y h k b o a=some r):r.Up h:=by
 unfold oC at e;split at e
 .exact abo e
 .cases e;exact ah _
 .cases e
theorem IQ{k:List AI}{g:Operand}{ps:Array Tmp}{a b:Code}(e:qd E x Z Y h k g ps a b=some r):r.Up h:=by
 unfold qd at e;split at e
 .rename_i d h1 mark c
  have f:h.nx<=h1.nx:=by
   split at c
   .split at c
    .cases c;exact ah _
    .cases c
   .cases c;exact sP
  repeat' split at e
  all_goals first
   |(cases e;done)
   |(cases e;exact aQ f sP)
 .cases e
theorem Xc{c:Code}{k:List AI}(e:HY E c k x Z Y h=some r):r.Up h:=by
 cases c with
 |ret=>exact Cx (j:=some .ret) e
 |cond c a b=>
  have e:(match ev Z c with
   | .bool t=>some (A1.go ⟨x,Z,.code (cond t a b)::k,Y,false⟩ h)
   |_=>none)=some r:=e
  split at e
  .cases e;exact ah _
  .cases e
 |exit id=>
  have e:(match yA id k with
   |some f=>some (A1.go ⟨x,Z,f,Y,false⟩ h)
   |none=>kX x Z (.code (.exit id)::k) Y h (some (.exit id)))=some r:=e
  split at e
  .cases e;exact ah _
  .exact Cx e
 |goto l=>
  have e:(match yw l k with
   |some f=>some (A1.go ⟨x,Z,f,Y,false⟩ h)
   |none=>kX x Z (.code (.goto l)::k) Y h (some (.goto l)))=some r:=e
  split at e
  .cases e;exact ah _
  .exact Cx e
 |rangeFunc g ps a b=>exact IQ (E:=E) e
 |region id i d=>cases d<;>(cases e;exact ah _)
 |refuse s=>cases e
 |_=>first|(cases e;done)|(cases e;exact ah _)
theorem Wp{i:AI}{k:List AI}(e:RQ E i k x Z Y h=some r):r.Up h:=by
 cases i with
 |code c=>exact Xc (E:=E) e
 |inRegion j l=>
  cases l with
  |nil=>cases e;exact ah _
  |cons o f=>exact Ph (E:=E) e
 |inRangeFunc id=>cases e
 |endRangeFunc l=>
  have e:(match h.obj l with
   | .loop st p fn nt t ps a b d=>cond (PL st) none
    (some (A1.go ⟨x,Z,YG p k,Y,false⟩ (h.put l (.loop .exhausted p fn nt t ps a b d))))
   |_=>none)=some r:=e
  split at e
  .rename_i st m fn nt t ps a b d g
   cases st<;>first|(cases e;exact qG)|cases e
  .cases e
 |beginRound=>
  have e:(match x.round with
   |some l=>(match h.obj l with
    | .loop .ready p fn nt t ps a b d=>some (A1.go ⟨x,Z,k,Y,false⟩ (h.put l (.loop .busy p fn nt t ps a b d)))
    |_=>none)
   |none=>none)=some r:=e
  repeat' split at e
  all_goals first
   |(cases e;done)
   |(cases e;exact qG)
 |_=>first|(cases e;done)|(cases e;exact ah _)
theorem oz(e:iw E f h=some r):r.Up h:=by
 obtain⟨x,Z,X,Y,ret⟩:=f;cases ret with
 |true=>exact YA (E:=E) e
 |false=>
  cases X with
  |nil=>exact Cx (j:=none) e
  |cons i k=>exact Wp (E:=E) e
end
def mV.Up(r:mV):Prop:=∀f h v h',r f h=some (v,h')->h.nx<=h'.nx
theorem tN{r:mV}(hr:mV.Up r){args:List AV}{d:Bool}{p:AV×AH}(e:Au E r g args d h=some p):h.nx<=p.2.nx:=by
 unfold Au at e;split at e
 .cases e
 .rename_i f c
  cases a:E.small.any (Nat.beq g)with
  |true=>
   rw[a]at e;simp only[bA]at e;split at e
   .rename_i q b
    cases e;have:=hr _ _ q.1 q.2 b;exact this
   .cases e
  |false=>
   rw[a]at e;exact hr _ _ p.1 p.2 e
structure yj.Up(o:yj):Prop where
 call:∀g args h p,o.call g args h=some p->h.nx<=p.2.nx
 round:∀l args h p,o.round l args h=some p->h.nx<=p.2.nx
theorem zZ{r:mV}(hr:mV.Up r):(outs E r).Up:=by
 refine⟨λg args h p e=>tN hr e,λl args h p e=>?_⟩;simp only[outs]at e;split at e
 .exact hr _ _ p.1 p.2 e
 .cases e
theorem Ni{r:yj}(hr:r.Up){o:Option OR}(a:∀q,o=some q->q.Up h){p:AV×AH}(e:vE E r h o=some p):h.nx<=p.2.nx:=by
 unfold vE at e;split at e
 .cases e;exact a _ rfl
 .split at e
  .exact hr.call _ _ _ _ e
  .split at e
   .rename_i b
    cases e;exact Ll b
   .cases e
  .cases e
 .exact hr.round _ _ _ _ e
 .cases e
theorem zX:∀(ps:List (Nat×Nat×AO)) (h:AH),(oW ps h).nx=h.nx
 |[],_=>rfl
 |p::ps,h=>by unfold oW;rw[zX ps,AH.qF]
theorem FY(m:Nat):∀(ps:List (Nat×Nat×AO)) (h:AH),(wake m ps h).1.nx=h.nx
 |[],_=>rfl
 |p::ps,h=>by
  unfold wake;have:=FY m ps h;split;rename_i h' b a;rw[a]at this;simp only at this;cases m.testBit p.1 with
  |true=>simp only[bA];rw[AH.qF];exact this
  |false=>simp only[bC];exact this
theorem Kw{r:Nat->yj}(hr:∀i,(r i).Up){x:AX}{b:Array Nat}{h0:AH}:∀(l:List Oper) (i:Nat) (tm:Tr AV) (c:List DQ) (a:List (Nat×AH)) (ps:List (Nat×Nat×AO)) (h:AH) (p:Tr AV×AH),
 wQ E r x b ops h0 l i tm c a ps h=some p->h.nx<=p.2.nx:=by
 intro l;induction l with
 |nil=>
  intro i tm c a ps h p e;unfold wQ at e;cases g:(oK b a.reverse&&c.all (qE E b a.reverse h0))with
  |true=>rw[g]at e;cases e;rw[zX];exact ah _
  |false=>rw[g]at e;cases e
 |cons o os d=>
  intro i tm c a ps h p e;unfold wQ at e;split at e
  .cases e
  .exact d _ _ _ _ _ _ _ e
  .cases j:kI o.op with
   |true=>
    rw[j]at e;simp only[bA]at e;split at e
    .rename_i v h' m
     have n:h.nx<=h'.nx:=Ac m;cases k:Nat.blt h.nx 1000000 with
     |false=>rw[k]at e;cases e
     |true=>
      rw[k]at e;have:=d _ _ _ _ _ _ _ e;simp only at this;omega
    .cases e
   |false=>
    rw[j]at e;simp only[bC]at e;split at e
    .exact d _ _ _ _ _ _ _ e
    .split at e
     .rename_i q f
      have s:=FY (b.getD i 0) ps h;have h1:=Ni (hr i) (λq f=>Ac f) f;have t:=d _ _ _ _ _ _ _ e;omega
     .cases e
theorem GU{r:mV}(hr:mV.Up r):∀(l:List (AF×AH)) (v:AV) (h:AH) (p:AV×AH),xL r v h l=some p->h.nx<=p.2.nx:=by
 intro l;induction l with
 |nil=>intro v h p e;cases e;exact ah _
 |cons q l c=>
  intro v h p e;unfold xL at e;split at e
  .rename_i d f
   obtain⟨s,a⟩:∃s,s=uG q.2.nx v h 12 d:=⟨_,rfl⟩;simp only[← a]at e;cases b:(AV.beq v s.1&&Nat.beq h.df s.2.df)with
   |true=>
    rw[b]at e;have:=c _ _ _ e;have g:h.nx<=(h.meet s.2).nx:=Nat.le_max_left _ _;omega
   |false=>rw[b]at e;cases e
  .cases e
theorem Rj{r:mV}(hr:mV.Up r):∀(n:Nat) (f:AF) (k:List (AF×Option Tmp)) (h:AH) (v:AV) (h':AH),runK E r n f k h=some (v,h')->h.nx<=h'.nx:=by
 intro n;induction n with
 |zero=>intro f k h v h' e;cases e
 |succ n b=>
  intro f k h v h' e;have e:Cc E r (runK E r n) k (iw E f h)=some (v,h'):=e;cases j:iw E f h with
  |none=>rw[j]at e;cases e
  |some a=>
   have i:=oz j;rw[j]at e;cases a with
   |go f' h1=>exact aQ i (b _ _ _ _ _ e)
   |ret u h1=>
    cases k with
    |nil=>cases e;exact i
    |cons c k=>exact aQ i (b _ _ _ _ _ e)
   |call f' d g args h1=>
    simp only[Cc]at e;cases m:E.inl.any (Nat.beq g)with
    |true=>
     rw[m]at e;simp only[bA]at e;split at e
     .exact aQ i (b _ _ _ _ _ e)
     .cases e
    |false=>
     rw[m]at e;simp only[bC]at e;split at e
     .rename_i p hp
      exact aQ i (aQ (tN hr hp) (b _ _ _ _ _ e))
     .cases e
   |dcall f' g args h1=>cases e
   |round f' d l args h1=>
    simp only[Cc]at e;split at e
    .split at e
     .rename_i p hp
      exact aQ i (aQ (hr _ _ p.1 p.2 hp) (b _ _ _ _ _ e))
     .cases e
    .cases e
   |drawn x tm o k ds h1=>cases e
   |alts l=>
    cases l with
    |nil=>cases e
    |cons p l=>
     simp only[Cc]at e;split at e
     .rename_i q s
      have h1:=i p (by simp);have w:=b _ _ _ q.1 q.2 s;have t:=GU (r:=λf h=>runK E r n f k h) (λf h v h'=>b f k h v h') _ _ _ _ e;simp only at t;omega
     .cases e
   |stop=>cases e
theorem Mx{r:mV}(hr:mV.Up r){args:List AV}{p:AV×AH}(e:MB E r g args h=some p):h.nx<=p.2.nx:=by
 unfold MB at e;cases a:E.inl.any (Nat.beq g)with
 |true=>
  rw[a]at e;simp only[bA]at e;split at e
  .exact Rj hr _ _ _ _ p.1 p.2 e
  .cases e
 |false=>rw[a]at e;exact tN hr e
theorem Ck(n:Nat):mV.Up (qW E n):=by
 induction n with
 |zero=>intro f h v h' e;cases e
 |succ n a=>
  intro f h v h' e;have e:vw E (qW E n) (iw E f h)=some (v,h'):=e;cases i:iw E f h with
  |none=>rw[i]at e;cases e
  |some r=>
   have b:=oz i;rw[i]at e;cases r with
   |go f' h1=>exact aQ b (a _ _ _ _ e)
   |ret s h1=>cases e;exact b
   |call f' d g args h1=>
    simp only[vw]at e;split at e
    .rename_i p hp
     exact aQ b (aQ (Mx a hp) (a _ _ _ _ e))
    .cases e
   |dcall f' g args h1=>
    simp only[vw]at e;split at e
    .rename_i p hp
     exact aQ b (aQ (tN a hp) (a _ _ _ _ e))
    .cases e
   |round f' d l args h1=>
    simp only[vw]at e;split at e
    .split at e
     .rename_i p hp
      exact aQ b (aQ (a _ _ p.1 p.2 hp) (a _ _ _ _ e))
     .cases e
    .cases e
   |drawn x tm c k ds h1=>
    simp only[vw]at e;cases j:yu c.toList (Region.before c) c with
    |false=>rw[j]at e;cases e
    |true=>
     rw[j]at e;simp only[bA]at e;split at e
     .rename_i p hp
      exact aQ b (aQ (Kw (λ_=>zZ a) _ _ _ _ _ _ _ _ hp) (a _ _ _ _ e))
     .cases e
   |alts l=>
    cases l with
    |nil=>cases e
    |cons p l=>
     simp only[vw]at e;split at e
     .rename_i q m
      have h1:=b p (by simp);have t:=a _ _ q.1 q.2 m;have o:=GU a _ _ _ _ e;simp only at o;omega
     .cases e
   |stop=>cases e
end
end
section
open Go.Conc (G)
variable{es:Array Event}
structure jW(K:Ctx)(w w₁:World):Prop where
 size:w₁.heap.size=w.heap.size
 own:∀b,¬K.fz b->K.own b->w₁.heap[b]? =w.heap[b]?
 old:∀b,K.fz b->w₁.heap[b]? =w.heap[b]?
 os:w₁.os=w.os
 tape:w₁.tape=w.tape
 output:w₁.output=w.output
theorem jW.refl{K:Ctx}(w:World):jW K w w:=⟨rfl,λ_ _ _=>rfl,λ_ _=>rfl,rfl,rfl,rfl⟩
theorem jW.trans{K:Ctx}{w d e:World}(h:jW K w d)(h':jW K d e):jW K w e:=
 ⟨h'.size.trans h.size,λb a c=>(h'.own b a c).trans (h.own b a c),λb a=>(h'.old b a).trans (h.old b a),h'.os.trans h.os,h'.tape.trans h.tape,h'.output.trans h.output⟩
theorem jW.drawn{K:Ctx}(w:World)(d:Nat):jW K w { w with drawn:=d }:=⟨rfl,λ_ _ _=>rfl,λ_ _=>rfl,rfl,rfl,rfl⟩
theorem Sat.rely{K:Ctx}{ι:Nm}{h:AH}{w a:World}(S:Sat K ι h w)(R:jW K w a):Sat K ι h a:=by
 refine⟨λi o e g=>?_,S.inj,by rw[R.size];exact S.lo,by rw[R.size];exact S.bs,λb c=>(R.old b c).trans (S.old b c),R.os.trans S.os,R.tape.trans S.tape,R.output.trans S.output,S.jU⟩;obtain⟨p,ob,h1,d,f,j,k⟩:=S.objs i o e g;exact⟨p,ob,h1,d,f,(R.own _ d f).trans j,k⟩
inductive Walk(P:Program)(main:Bool)(K:Ctx)(Stop:Nat->Goroutine->World->Prop):Nat->Goroutine->World->Prop
 |stop {d:Nat} {g:Goroutine} {w:World}:(∀w₁,jW K w w₁->Stop d g w₁)->Walk P main K Stop d g w
 |step {d:Nat} {g:Goroutine} {w:World} (g':World->Goroutine) (w':World->World) (es:World->Array Event):g.status= .running->
  (∀w₁,jW K w w₁->stepG P main g w₁= .go (g' w₁) (w' w₁) (es w₁)∧iA K w₁ (w' w₁) (es w₁))->
  (∀w₁,jW K w w₁->Walk P main K Stop (deafBehind d (es w₁)) (g' w₁) (w' w₁))->Walk P main K Stop d g w
section
variable{P:Program}{Z:Bool}{K:Ctx}{Stop Y:Nat->Goroutine->World->Prop}
theorem Walk.rely{d:Nat}{g:Goroutine}{w c:World}(h:Walk P Z K Stop d g w)(hr:jW K w c):Walk P Z K Stop d g c:=by
 cases h with
 |stop h=>exact .stop λa b=>h a (hr.trans b)
 |step g' w' es h1 e f=>exact .step g' w' es h1 (λa b=>e a (hr.trans b)) (λa b=>f a (hr.trans b))
theorem Walk.bind{d:Nat}{g:Goroutine}{w:World}(h:Walk P Z K Y d g w)(a:∀d g w,Y d g w->Walk P Z K Stop d g w):Walk P Z K Stop d g w:=by
 induction h with
 |stop h=>exact a _ _ _ (h _ (jW.refl _))
 |step g' w' es h1 b _ c=>exact .step g' w' es h1 b c
theorem Walk.of{d:Nat}{g:Goroutine}{w:World}(c:g.status= .running)(h:∀a,jW K w a->∃g' w' es,stepG P Z g a= .go g' w' es∧iA K a w' es∧Walk P Z K Stop (deafBehind d es) g' w'):Walk P Z K Stop d g w:=by
 classical
 let b (a:World) (hr:jW K w a):=h a hr;refine .step (λa=>if hr:jW K w a then(h a hr).choose else g) (λa=>if hr:jW K w a then(h a hr).choose_spec.choose else a)
  (λa=>if hr:jW K w a then(h a hr).choose_spec.choose_spec.choose else #[]) c (λa hr=>?_) (λa hr=>?_)
 .simp only[dif_pos hr]
  have:=(h a hr).choose_spec.choose_spec.choose_spec;exact⟨this.1,this.2.1⟩
 .simp only[dif_pos hr]
  have:=(h a hr).choose_spec.choose_spec.choose_spec;exact this.2.2
theorem Walk.mono{d:Nat}{g:Goroutine}{w:World}(h:Walk P Z K Y d g w)(b:∀d g w,Y d g w->Stop d g w):Walk P Z K Stop d g w:=by
 induction h with
 |stop h=>exact .stop λa hr=>b _ _ _ (h a hr)
 |step g' w' es h1 c _ e=>exact .step g' w' es h1 c e
structure Sub(K' K:Ctx):Prop where
 P:K'.P=K.P
 W0:K'.W0=K.W0
 base:K'.fz=K.fz
 own:∀b,K'.own b->K.own b
 peek:K'.peek->K.peek
structure Kept(K K':Ctx)(W w:World):Prop where
 size:W.heap.size<=w.heap.size
 same:∀b,b<W.heap.size->¬K.fz b->K.own b->¬K'.own b->w.heap[b]? =W.heap[b]?
theorem Kept.refl(K a:Ctx)(w:World):Kept K a w w:=⟨ah _,λ_ _ _ _ _=>rfl⟩
theorem jW.sub{K e:Ctx}(s:Sub e K){w d:World}(h:jW K w d):jW e w d:=
 ⟨h.size,λb a c=>h.own b (by rw[← s.base];exact a) (s.own b c),λb a=>h.old b (by rw[← s.base];exact a),h.os,h.tape,h.output⟩
theorem xE.sub{K c:Ctx}(s:Sub c K){n:Nat}{e:Event}(h:xE c n e):xE K n e:=by
 obtain⟨b,wr,d⟩:=e;cases b with
 |cell a=>exact⟨h.1.imp (λh=>⟨by rw[← s.base];exact h.1,s.own _ h.2⟩) (λh=>⟨s.peek h.1,by rw[← s.base];exact h.2.1,h.2.2⟩),h.2⟩
 |obj r=>exact⟨by rw[← s.base];exact h.1,s.own _ h.2.1,h.2.2⟩
 |mark m=>cases m<;>first|exact⟨by rw[← s.base];exact h.1,s.own _ h.2.1,h.2.2⟩|exact h
 |output=>exact h
 |goroutines=>exact h
theorem iA.sub{K d:Ctx}(s:Sub d K){w w':World}{es:Array Event}(h:iA d w w' es):iA K w w' es:=
 ⟨h.size,λb f g=>h.kept b f λ⟨a,c⟩=>g ⟨by rw[← s.base];exact a,s.own b c⟩,λe i=>(h.evs e i).imp (xE.sub s) id,h.os,h.tape,h.output⟩
theorem Kept.rely{K g:Ctx}{W w f:World}(h:Kept K g W w)(hr:jW K w f):Kept K g W f:=
 ⟨by rw[hr.size];exact h.size,λb a c d e=>(hr.own b c d).trans (h.same b a c d e)⟩
theorem Kept.fine{K g:Ctx}{W w f:World}(h:Kept K g W w)(i:iA g w f es):Kept K g W f:=
 ⟨aQ h.size i.size,λb a c d e=>(i.kept b (gZ a h.size) λx=>e x.2).trans (h.same b a c d e)⟩
theorem Walk.frame{b:Ctx}(s:Sub b K){W:World}{d:Nat}{g:Goroutine}{w:World}(h:Walk P Z b Y d g w)(e:Kept K b W w)(f:∀d g w,Kept K b W w->Y d g w->Stop d g w):Walk P Z K Stop d g w:=by
 induction h with
 |stop h=>exact .stop λa hr=>f _ _ _ (e.rely hr) (h a (hr.sub s))
 |step g' w' es h1 c _ i=>
  exact .step g' w' es h1 (λa hr=>⟨(c a (hr.sub s)).1,(c a (hr.sub s)).2.sub s⟩) (λa hr=>i a (hr.sub s) ((e.rely hr).fine (c a (hr.sub s)).2))
end
structure sS(K:Ctx)(ι:Nm)(M:Nat->AO->Prop)(w:World):Prop where
 objs:∀i o,M i o->o.live->∃p ob,ι i=some p∧¬K.fz p.1∧K.own p.1∧w.heap[p.1]? =some ob∧RO K.P ι p.2 o ob
 inj:∀i j o o' p q,M i o->M j o'->o.live->o'.live->ι i=some p->ι j=some q->p.1=q.1->i=j
 lo:K.lo<=w.heap.size
 bs:∀b,K.fz b->b<w.heap.size
 old:∀b,K.fz b->w.heap[b]? =K.W0.heap[b]?
 os:w.os=K.W0.os
 tape:w.tape=K.W0.tape
 output:w.output=K.W0.output
 jU:K.peek->Ext dI ι
section
variable{K:Ctx}{Z:Nm}{h:AH}{w:World}{M:Nat->AO->Prop}
theorem Sat.toM(S:Sat K Z h w)(a:∀i o,M i o->o.live->h.tr.get i=some o):sS K Z M w:=
 ⟨λi o e b=>S.objs i o (a i o e b) b,λi j o c p q e1 e2 l1 l2=>S.inj i j o c p q (a i o e1 l1) (a j c e2 l2) l1 l2,S.lo,S.bs,S.old,S.os,S.tape,S.output,S.jU⟩
theorem sS.Mi(S:sS K Z M w)(a:∀i o,h.tr.get i=some o->o.live->M i o):Sat K Z h w:=
 ⟨λi o e b=>S.objs i o (a i o e b) b,λi j o c p q e1 e2 l1 l2=>S.inj i j o c p q (a i o e1 l1) (a j c e2 l2) l1 l2,S.lo,S.bs,S.old,S.os,S.tape,S.output,S.jU⟩
theorem sS.aaV{M':Nat->AO->Prop}(S:sS K Z M w)(a:∀i o,M' i o->o.live->M i o):sS K Z M' w:=
 ⟨λi o e b=>S.objs i o (a i o e b) b,λi j o c p q e1 e2 l1 l2=>S.inj i j o c p q (a i o e1 l1) (a j c e2 l2) l1 l2,S.lo,S.bs,S.old,S.os,S.tape,S.output,S.jU⟩
theorem sS.rely{a:World}(S:sS K Z M w)(R:jW K w a):sS K Z M a:=by
 refine⟨λi o e g=>?_,S.inj,by rw[R.size];exact S.lo,by rw[R.size];exact S.bs,λb c=>(R.old b c).trans (S.old b c),R.os.trans S.os,R.tape.trans S.tape,R.output.trans S.output,S.jU⟩;obtain⟨p,ob,h1,d,f,j,k⟩:=S.objs i o e g;exact⟨p,ob,h1,d,f,(R.own _ d f).trans j,k⟩
def Ctx.less(K:Ctx)(Z:Nm)(M:Nat->AO->Prop)(X:Nat->Prop)(w:World)(a:K.lo<=w.heap.size)(c:∀i o,M i o->o.live->∃p,Z i=some p∧p.1<w.heap.size):Ctx where
 P:=K.P
 W0:=K.W0
 fz:=K.fz
 lo:=w.heap.size
 peek:=K.peek
 own:=λb=>K.own b∧¬∃i o p,X i∧M i o∧o.live∧Z i=some p∧p.1=b
 lN:=λb d=>⟨K.lN b (aQ a d),λ⟨i,o,p,_,h1,e,f,g⟩=>by
  obtain⟨j,e1,e2⟩:=c i o h1 e;rw[f]at e1;cases e1;omega⟩
theorem sS.lt(S:sS K Z M w):∀i o,M i o->o.live->∃p,Z i=some p∧p.1<w.heap.size:=λi o h1 a=>by
 obtain⟨p,ob,e1,_,_,b,_⟩:=S.objs i o h1 a;exact⟨p,e1,lt_of_heap b⟩
theorem sG{X:Nat->Prop}{hlo hM}:Sub (Ctx.less K Z M X w hlo hM) K:=⟨rfl,rfl,rfl,λ_ h=>h.1,λh=>h⟩
theorem sS.less(S:sS K Z M w){X:Nat->Prop}(b:∀i o,h.tr.get i=some o->o.live->M i o∧¬X i):Sat (Ctx.less K Z M X w S.lo S.lt) Z h w:=by
 refine⟨λi o e c=>?_,λi j o a p q e1 e2 l1 l2=>S.inj i j o a p q (b i o e1 l1).1 (b j a e2 l2).1 l1 l2,ah _,S.bs,S.old,S.os,S.tape,S.output,S.jU⟩;obtain⟨h1,g⟩:=b i o e c;obtain⟨p,ob,e1,e2,k,l,m⟩:=S.objs i o h1 c;refine⟨p,ob,e1,e2,⟨k,λ⟨j,a,q,n,r,d,s,f⟩=>?_⟩,l,m⟩;exact g (S.inj i j o a p q h1 r c d e1 s f.symm▸n)
theorem sS.more(S:sS K Z M w){X:Nat->Prop}{ι':Nm}{h':AH}{w':World}(a:Sat (Ctx.less K Z M X w S.lo S.lt) ι' h' w')(c:Ext Z ι')(A:Kept K (Ctx.less K Z M X w S.lo S.lt) w w'){M':Nat->AO->Prop}
 (v:∀i o,M' i o->o.live->h'.tr.get i=some o∨(M i o∧X i)):sS K ι' M' w':=by
 have old:∀i o,M i o->X i->o.live->∃p ob,Z i=some p∧¬K.fz p.1∧K.own p.1∧w'.heap[p.1]? =some ob∧RO K.P Z p.2 o ob∧¬(Ctx.less K Z M X w S.lo S.lt).own p.1:=by
  intro i o h1 d f;obtain⟨p,ob,e1,e2,g,k,r⟩:=S.objs i o h1 f;have B:¬(Ctx.less K Z M X w S.lo S.lt).own p.1:=λE=>E.2 ⟨i,o,p,d,h1,f,e1,rfl⟩;exact⟨p,ob,e1,e2,g,(A.same p.1 (lt_of_heap k) e2 g B).trans k,r,B⟩
 refine⟨λi o e f=>?_,λi j o l p q e1 e2 l1 l2 hp m b=>?_,aQ S.lo A.size,a.bs,a.old,a.os,a.tape,a.output,a.jU⟩
 .rcases v i o e f with h1|⟨h1,d⟩
  .obtain⟨p,ob,e1,e2,g,k,r⟩:=a.objs i o h1 f
   exact⟨p,ob,e1,e2,g.1,k,r⟩
  .obtain⟨p,ob,e1,e2,g,k,r,_⟩:=old i o h1 d f
   exact⟨p,ob,c _ _ e1,e2,g,k,r.mono c⟩
 .rcases v i o e1 l1 with h1|⟨h1,d⟩<;>rcases v j l e2 l2 with n|⟨n,C⟩
  .exact a.inj i j o l p q h1 n l1 l2 hp m b
  .obtain⟨D,ob,k1,F,x,G,H⟩:=a.objs i o h1 l1
   obtain⟨q',s,y,I,J,L,N,z⟩:=old j l n C l2;rw[hp]at k1;cases k1;rw[c _ _ y]at m;cases m;exact aP (b▸x) z
  .obtain⟨D,ob,k1,F,x,G,H⟩:=a.objs j l n l2
   obtain⟨q',s,y,I,J,L,N,z⟩:=old i o h1 d l1;rw[m]at k1;cases k1;rw[c _ _ y]at hp;cases hp;exact aP (b▸x) z
  .obtain⟨D,ob,t,_⟩:=old i o h1 d l1
   obtain⟨q',s,u,_⟩:=old j l n C l2;rw[c _ _ t]at hp;cases hp;rw[c _ _ u]at m;cases m;exact S.inj i j o l _ _ h1 n l1 l2 t u b
theorem sS.apart(S:sS K Z M w){X:Nat->Prop}{ι':Nm}{h':AH}{w':World}(f:Sat (Ctx.less K Z M X w S.lo S.lt) ι' h' w')(g:Ext Z ι'){i:Nat}{o a:AO}(j:X i)(c:M i o)(d:o.live)(k:h'.tr.get i=some a)(b:a.live):False:=by
 obtain⟨p,ob,e1,_⟩:=S.objs i o c d;obtain⟨q,l,e,_,m,_⟩:=f.objs i a k b;rw[g _ _ e1]at e;cases e;exact m.2 ⟨i,o,p,j,c,d,e1,rfl⟩
end
end
section
variable{b i:Nat}{ι:Nm}
mutual
theorem AV.beq_eq:∀{a b:AV},AV.beq a b=true->a=b
 | .any,.any,_=>rfl
 | .one,.one,_=>rfl
 | .bool a,.bool b,h=>by simp[AV.beq]at h;rw[h]
 | .int k a,.int j b,h=>by
   simp only[AV.beq,av]at h;have h1:k=j:=by have:=h.1;revert this;cases k<;>cases j<;>first|(intro _;rfl)|(intro h;cases h)
   have e:a=b:=by simpa using h.2
   rw[h1,e]
 | .str a,.str b,h=>by simp[AV.beq]at h;rw[h]
 | .nQ,.nQ,_=>rfl
 | .ptr a b,.ptr c d,h=>by
   simp only[AV.beq,av]at h;rw[ak h.1,ak h.2]
 | .aM,.aM,_=>rfl
 | .emp,.emp,_=>rfl
 | .aO a n c,.aO b m d,h=>by
   simp only[AV.beq,av,gM]at h;rw[h.1,ak h.2.1,ak h.2.2]
 | .sl a b c d,.sl x y z u,h=>by
   simp only[AV.beq,av]at h;rw[ak h.1.1.1,ak h.1.1.2,ak h.1.2,show d=u by simpa using h.2]
 | .nT,.nT,_=>rfl
 | .map a,.map b,h=>by simp only[AV.beq]at h;rw[ak h]
 | .sD,.sD,_=>rfl
 | .fn f a b,.fn g c d,h=>by
   simp only[AV.beq,av]at h;rw[ak h.1.1,AV.rW h.1.2,AV.rW h.2]
 | .yield a,.yield b,h=>by simp only[AV.beq]at h;rw[ak h]
 | .kH,.kH,_=>rfl
 | .iface t a,.iface u b,h=>by
   simp only[AV.beq,av]at h;rw[ak h.1,AV.beq_eq h.2]
 | .agg a,.agg b,h=>by simp only[AV.beq]at h;rw[AV.rW h]
 | .bV a,.bV b,h=>by simp only[AV.beq]at h;rw[AV.rW h]
theorem AV.rW:∀{a b:List AV},AV.zn a b=true->a=b
 |[],[],_=>rfl
 |a::l,b::m,h=>by
  simp only[AV.zn,av]at h;rw[AV.beq_eq h.1,AV.rW h.2]
end
theorem AE.rW:∀{a b:List AE},AE.zn a b=true->a=b
 |[],[],_=>rfl
 |⟨k,v,n⟩::l,⟨c,d,e⟩::m,h=>by
  simp only[AE.zn,av]at h;rw[AV.beq_eq h.1.1.1,AV.beq_eq h.1.1.2,ak h.1.2,AE.rW h.2]
theorem AO.beq_eq{a b:AO}(h:AO.beq a b=true):a=b:=by
 unfold AO.beq at h;split at h
 .simp only[av,fK]at h
  obtain⟨⟨⟨h1,c⟩,d⟩,e⟩:=h;rw[ak h1,c,d,AV.rW e]
 .simp only[av]at h
  rw[ak h.1,AE.rW h.2]
 .simp only[av,fK]at h
  obtain⟨⟨⟨h1,c⟩,d⟩,e⟩:=h;rw[h1,ak c,d,ak e]
 .simp only[av,fK]at h
  rw[h.1,ak h.2]
 .cases h
theorem qw:∀{a b:Tr AO} {i:Nat} {o:AO},(yU a b).get i=some o->a.get i=some o∧b.get i=some o
 | .e,b,i,o,h=>by cases b<;>(simp only[yU,Tr.dN]at h;cases h)
 | .n l v r,.e,i,o,h=>by simp only[yU,Tr.dN]at h;cases h
 | .n l v r,.n f d g,i,o,h=>by
   cases v with
   |none=>
    simp only[yU]at h;rw[Tr.jh]at h ⊢;rw[Tr.jh];by_cases h0:i=0
    .rw[aH h0]at h;cases h
    .rw[au h0]at h ⊢;rw[au h0]
     by_cases h1:i % 2=1
     .rw[aH h1]at h ⊢;rw[aH h1];exact qw h
     .rw[au h1]at h ⊢;rw[au h1];exact qw h
   |some a=>
    cases d with
    |none=>
     simp only[yU]at h;rw[Tr.jh]at h ⊢;rw[Tr.jh];by_cases h0:i=0
     .rw[aH h0]at h;cases h
     .rw[au h0]at h ⊢;rw[au h0]
      by_cases h1:i % 2=1
      .rw[aH h1]at h ⊢;rw[aH h1];exact qw h
      .rw[au h1]at h ⊢;rw[au h1];exact qw h
    |some b=>
     simp only[yU]at h;rw[Tr.jh]at h ⊢;rw[Tr.jh];by_cases h0:i=0
     .rw[aH h0]at h ⊢;rw[aH h0]
      cases c:AO.beq a b with
      |true=>rw[c]at h;cases h;rw[AO.beq_eq c];exact⟨rfl,rfl⟩
      |false=>rw[c]at h;cases h
     .rw[au h0]at h ⊢;rw[au h0]
      by_cases h1:i % 2=1
      .rw[aH h1]at h ⊢;rw[aH h1];exact qw h
      .rw[au h1]at h ⊢;rw[au h1];exact qw h
theorem oH{t:Tr AO}:∀(n:Nat) (l:List Nat) (acc:Tr AO),(∀i o,acc.get i=some o->t.get i=some o)->∀i o,(reach t n l acc).get i=some o->t.get i=some o
 |0,_,acc,a,i,o,h=>by unfold reach at h;exact a i o h
 |n+1,[],acc,a,i,o,h=>by unfold reach at h;exact a i o h
 |n+1,j::l,acc,a,i,o,h=>by
  unfold reach at h;split at h
  .exact oH n l acc a i o h
  .split at h
   .rename_i c hj
    refine oH n _ (acc.set j c) (λd e h'=>?_) i o h;rcases Tr.pU h' with⟨rfl,rfl⟩|⟨_,b⟩
    .exact hj
    .exact a d e b
   .exact oH n l acc a i o h
theorem Yt{h:AH}{args:List AV}{o:AO}(e:(h.sub args).tr.get i=some o):h.tr.get i=some o:=
 oH 100000 _ .e (λi o h=>by rw[Tr.dN]at h;cases h) i o e
theorem wS:∀{h p h':Tr AO} {i:Nat} {o:AO},(vC h p h').get i=some o->h'.get i=some o∨(p.get i=none∧h.get i=some o)
 | .n l v r,.n pl c pr,.n d b f,i,o,e=>by
   simp only[vC]at e;rw[Tr.jh]at e ⊢;rw[Tr.jh,Tr.jh];by_cases h0:i=0
   .rw[aH h0]at e ⊢;rw[aH h0,aH h0]
    cases c with
    |some x=>exact .inl e
    |none=>cases b with
     |some x=>exact .inl e
     |none=>exact .inr ⟨rfl,e⟩
   .rw[au h0]at e ⊢;rw[au h0,au h0]
    by_cases h1:i % 2=1
    .rw[aH h1]at e ⊢;rw[aH h1,aH h1];exact wS e
    .rw[au h1]at e ⊢;rw[au h1,au h1];exact wS e
 | .n l v r,.e,.n d b f,i,o,e=>by
   simp only[vC]at e;rw[Tr.jh]at e ⊢;rw[Tr.jh];by_cases h0:i=0
   .rw[aH h0]at e ⊢;rw[aH h0]
    cases b with
    |some x=>exact .inl e
    |none=>exact .inr ⟨Tr.dN _,e⟩
   .rw[au h0]at e ⊢;rw[au h0]
    by_cases h1:i % 2=1
    .rw[aH h1]at e ⊢;rw[aH h1]
     rcases wS e with a|⟨_,a⟩
     .exact .inl a
     .exact .inr ⟨Tr.dN _,a⟩
    .rw[au h1]at e ⊢;rw[au h1]
     rcases wS e with a|⟨_,a⟩
     .exact .inl a
     .exact .inr ⟨Tr.dN _,a⟩
 | .e,.e,.e,i,o,e=>by simp only[vC]at e;exact .inr ⟨Tr.dN _,e⟩
 | .n _ _ _,.e,.e,i,o,e=>by simp only[vC]at e;exact .inr ⟨Tr.dN _,e⟩
 | .e,.e,.n _ _ _,i,o,e=>by simp only[vC]at e;exact .inl e
 | .e,.n _ _ _,.e,i,o,e=>by simp only[vC]at e;exact .inl e
 | .e,.n _ _ _,.n _ _ _,i,o,e=>by simp only[vC]at e;exact .inl e
 | .n _ _ _,.n _ _ _,.e,i,o,e=>by simp only[vC]at e;rw[Tr.dN]at e;cases e
theorem rY(a b i:Nat):(i=a∧sw a b i=b)∨(i≠a∧i=b∧sw a b i=a)∨(i≠a∧i≠b∧sw a b i=i):=by
 unfold sw;by_cases h:i=a
 .left
  have:Nat.beq i a=true:=by rw[h];simp
  rw[this];exact⟨h,rfl⟩
 .have h1:Nat.beq i a=false:=by cases c:Nat.beq i a with |false=>rfl|true=>exact aP (ak c) h
  rw[h1,bC];by_cases h':i=b
  .right;left
   have:Nat.beq i b=true:=by rw[h'];simp
   rw[this];exact⟨h,h',rfl⟩
  .right;right
   have d:Nat.beq i b=false:=by cases c:Nat.beq i b with |false=>rfl|true=>exact aP (ak c) h'
   rw[d];exact⟨h,h',rfl⟩
theorem Vn(a b i:Nat):sw a b (sw a b i)=i:=by
 rcases rY a b i with⟨h1,d⟩|⟨h0,h1,d⟩|⟨h0,h1,d⟩
 .rw[d]
  rcases rY a b b with⟨c,e⟩|⟨_,_,e⟩|⟨_,c,_⟩
  .rw[e,c,h1]
  .rw[e,h1]
  .exact aP rfl c
 .rw[d]
  rcases rY a b a with⟨_,e⟩|⟨c,_,_⟩|⟨c,_,_⟩
  .rw[e,h1]
  .exact aP rfl c
  .exact aP rfl c
 .rw[d,d]
def Ti(a b:Nat)(ι:Nm):Nm:=λi=>ι (sw a b i)
theorem DW(a b:Nat)(ι:Nm)(i:Nat):Ti a b ι (sw a b i)=ι i:=by unfold Ti;rw[Vn]
mutual
theorem RV.sw{ι:Nm}(a b:Nat):∀{x:AV} {v:Value},RV ι x v->RV (Ti a b ι) (x.sw a b) v
 | .any,_,_=>by unfold AV.sw RV;trivial
 | .one,_,h| .bool _,_,h| .int _ _,_,h| .str _,_,h| .nQ,_,h| .aM,_,h| .emp,_,h| .nT,_,h| .sD,_,h| .kH,_,h| .aO _ _ _,_,h=>by
   unfold AV.sw;unfold RV at h ⊢;exact h
 | .ptr i o,v,h=>by
   unfold AV.sw;unfold RV at h ⊢;obtain⟨p,hi,e⟩:=h;exact⟨p,by rw[DW];exact hi,e⟩
 | .sl i o l c,v,h=>by
   unfold AV.sw;unfold RV at h ⊢;obtain⟨p,hi,e⟩:=h;exact⟨p,by rw[DW];exact hi,e⟩
 | .map i,v,h=>by
   unfold AV.sw;unfold RV at h ⊢;obtain⟨p,hi,e⟩:=h;exact⟨p,by rw[DW];exact hi,e⟩
 | .yield i,v,h=>by
   unfold AV.sw;unfold RV at h ⊢;obtain⟨p,hi,e⟩:=h;exact⟨p,by rw[DW];exact hi,e⟩
 | .fn f l m,v,h=>by
   unfold AV.sw;unfold RV at h ⊢;obtain⟨as,bs,e,h1,d⟩:=h;exact⟨as,bs,e,dJ.sw a b h1,dJ.sw a b d⟩
 | .iface t x,v,h=>by
   unfold AV.sw;unfold RV at h ⊢;obtain⟨y,e,h1⟩:=h;exact⟨y,e,RV.sw a b h1⟩
 | .agg l,v,h=>by
   unfold AV.sw;unfold RV at h ⊢;obtain⟨y,e,h1⟩:=h;exact⟨y,e,dJ.sw a b h1⟩
 | .bV l,v,h=>by
   unfold AV.sw;unfold RV at h ⊢;obtain⟨y,e,h1⟩:=h;exact⟨y,e,dJ.sw a b h1⟩
theorem dJ.sw{ι:Nm}(a b:Nat):∀{l:List AV} {vs:List Value},dJ ι l vs->dJ (Ti a b ι) (AV.UY a b l) vs
 |[],_,h=>by unfold AV.UY;rw[bJ h];exact bS
 |x::l,_,h=>by
  obtain⟨v,r,rfl,h1,c⟩:=aX h;unfold AV.UY;exact bQ (RV.sw a b h1) (dJ.sw a b c)
end
theorem Gu(a b:Nat):∀l:List AV,(AV.UY a b l).length=l.length
 |[]=>by unfold AV.UY;rfl
 |x::l=>by unfold AV.UY;simp[Gu a b l]
theorem pq{α:Type}(f:α->α):∀(t:Tr α) (i:Nat),(wX f t).get i=(t.get i).map f
 | .e,i=>rfl
 | .n l v r,i=>by
   unfold wX;rw[Tr.jh,Tr.jh];by_cases h0:i=0
   .rw[aH h0,aH h0];cases v<;>rfl
   .rw[au h0,au h0]
    by_cases h1:i % 2=1
    .rw[aH h1,aH h1];exact pq f l _
    .rw[au h1,au h1];exact pq f r _
theorem RT.sw{ι:Nm}{nt:Nat}{tm:Tr AV}{tmps:Array Value}(a b:Nat)(h:RT ι nt tm tmps):RT (Ti a b ι) nt (wX (AV.sw a b) tm) tmps:=by
 refine⟨h.1,λt x c=>?_⟩;rw[pq]at c;obtain⟨y,d,rfl⟩:=aN.1 c;exact(h.2 t y d).sw a b
theorem vW.sw{ι:Nm}(a b:Nat){l:List AE}{es:List MapEntry}(h:vW ι l es):vW (Ti a b ι) (l.map λe=>⟨e.key.sw a b,e.val.sw a b,e.born⟩) es:=by
 induction l generalizing es with
 |nil=>exact h
 |cons x l c=>
  obtain⟨e,r,rfl,h1,d,f,g⟩:=h;exact⟨e,r,rfl,h1.sw a b,d.sw a b,f,c g⟩
theorem AO.Kr{a:Nat}{o:AO}:(o.sw a b).live↔o.live:=by cases o<;>exact Iff.rfl
theorem RO.sw{P:Program}{ι:Nm}{cap:Nat}(a b:Nat){o:AO}{ob:Obj}(h:RO P ι cap o ob):RO P (Ti a b ι) cap (o.sw a b) ob:=by
 cases o with
 |dead=>trivial
 |cells vs el g fz=>
  obtain⟨c,lo,k,e,⟨l1,l2,e2,r⟩,h1,f,l⟩:=h;exact⟨c,lo,k,e,⟨l1,l2,e2,r.sw a b⟩,λt=>by rw[Gu];exact h1 t,f,l⟩
 |map es ck=>obtain⟨n,e,h1⟩:=h;exact⟨n,e,h1.sw a b⟩
 |GR m s seen st=>
  obtain⟨x,h1,f,e⟩:=h;refine⟨x,λj hj=>?_,λu=>?_,e⟩
  .cases m with
   |none=>cases hj
   |some i=>
    cases hj;obtain⟨p,hp,v⟩:=h1 i rfl;exact⟨p,by rw[DW];exact hp,v⟩
  .cases m with
   |none=>exact f rfl
   |some i=>cases u
 |sit s p=>exact h
 |loop st F fn nt tm ps x y d=>
  obtain⟨q,w,L,e,h1,f,l,A,B,C,D,E⟩:=h;exact⟨q,by rw[DW];exact w,L,e,h1,f,l,A.sw a b,B,C,D,E⟩
 |rz z=>exact h
theorem AH.O4{a:Nat}{h:AH}{o:AO}(e:(h.sw a b).tr.get i=some o)(m:o.live):∃c,h.tr.get (Ev.sw a b i)=some c∧o=c.sw a b:=by
 obtain⟨tr,nx,df⟩:=h;have e:(swT a b (wX (AO.sw a b) tr)).get i=some o:=e;have k:∀j,Zd (wX (AO.sw a b) tr) j=o->∃c,tr.get j=some c∧o=c.sw a b:=λj hj=>by
  unfold Zd at hj;rw[pq]at hj;cases l:tr.get j with
  |none=>rw[l]at hj;subst hj;exact m.elim
  |some c=>rw[l]at hj;exact⟨c,rfl,hj.symm⟩
 unfold swT at e;show ∃c,tr.get (Ev.sw a b i)=some c∧_;rcases Tr.pU e with⟨h1,n⟩|⟨h1,e⟩
 .have:Ev.sw a b i=a:=by
   rcases rY a b i with⟨d,f⟩|⟨_,_,f⟩|⟨_,d,_⟩
   .rw[f,← h1,d]
   .exact f
   .exact aP h1 d
  rw[this];exact k a n.symm
 .rcases Tr.pU e with⟨g,p⟩|⟨g,e⟩
  .have:Ev.sw a b i=b:=by
    rcases rY a b i with⟨_,f⟩|⟨d,_,_⟩|⟨d,_,_⟩
    .exact f
    .exact aP g d
    .exact aP g d
   rw[this];exact k b p.symm
  .have:Ev.sw a b i=i:=by
    rcases rY a b i with⟨d,_⟩|⟨_,d,_⟩|⟨_,_,f⟩
    .exact aP d g
    .exact aP d h1
    .exact f
   rw[this];rw[pq]at e;obtain⟨c,q,r⟩:=aN.1 e;exact⟨c,q,r.symm⟩
theorem AH.aah{a:Nat}{h:AH}:(h.sw a b).nx=h.nx:=by obtain⟨tr,nx,df⟩:=h;rfl
theorem AH.acP{a:Nat}{h:AH}:(h.sw a b).df=h.df:=by obtain⟨tr,nx,df⟩:=h;rfl
theorem YQ{a:Nat}(e:a<OLD)(f:b<OLD)(h:Ext dI ι):Ext dI (Ti a b ι):=by
 intro i p hi;have c:OLD<=i:=by
  unfold dI at hi;rcases aZ i OLD with h1|h1
  .rw[au (by omega)]at hi;cases hi
  .exact h1
 unfold Ti;rcases rY a b i with⟨h1,_⟩|⟨_,h1,_⟩|⟨_,_,d⟩
 .omega
 .omega
 .rw[d];exact h i p hi
theorem Sat.sw{K:Ctx}{ι:Nm}{h:AH}{w:World}(S:Sat K ι h w){a b:Nat}(g:a<OLD)(k:b<OLD):Sat K (Ti a b ι) (h.sw a b) w:=by
 refine⟨λi o hi f=>?_,λi j o z p q h1 l l1 l2 hp m c=>?_,S.lo,S.bs,S.old,S.os,S.tape,S.output,λn=>YQ g k (S.jU n)⟩
 .obtain⟨d,e,rfl⟩:=AH.O4 hi f
  obtain⟨p,ob,k1,r,s,t,u⟩:=S.objs _ d e (AO.Kr.1 f);exact⟨p,ob,k1,r,s,t,u.sw a b⟩
 .obtain⟨d,e,rfl⟩:=AH.O4 h1 l1
  obtain⟨v,x,rfl⟩:=AH.O4 l l2;have:=S.inj _ _ d v p q e x (AO.Kr.1 l1) (AO.Kr.1 l2) hp m c;have y:=fZ (Ev.sw a b) this;rwa[Vn,Vn]at y
theorem Grow.sw{ι ι':Nm}{n c a b:Nat}(g:Grow ι ι' n c)(j:n<=a)(d:a<c)(k:n<=b)(e:b<c):Grow ι (Ti a b ι') n c:=by
 refine⟨g.le,λi hi=>?_⟩;have:Ev.sw a b i=i:=by
  rcases rY a b i with⟨f,_⟩|⟨_,f,_⟩|⟨_,_,h⟩
  .omega
  .omega
  .exact h
 unfold Ti;rw[this];exact g.same i hi
theorem Eb(n0:Nat)(v:AV)(h:AH):∀(n:Nat) (q:AV×AH),(uG n0 v h n q).2.nx=q.2.nx
 |0,_=>rfl
 |n+1,q=>by
  unfold uG;split
  .rename_i p hp
   cases a:(Nat.ble n0 p.1&&Nat.ble n0 p.2&&Nat.blt p.1 q.2.nx&&Nat.blt p.2 q.2.nx&&Nat.ble q.2.nx OLD)with
   |true=>rw[bA,Eb n0 v h n];exact AH.aah
   |false=>rfl
  .rfl
theorem Ea{n0:Nat}{v:AV}{h:AH}(Q:AV×AH->Prop):∀(n:Nat) (q:AV×AH),Q q->(∀q a b,Q q->n0<=a->n0<=b->a<q.2.nx->b<q.2.nx->q.2.nx<=OLD->Q (q.1.sw a b,q.2.sw a b))->Q (uG n0 v h n q)
 |0,q,c,_=>c
 |n+1,q,c,d=>by
  unfold uG;split
  .rename_i p hp
   cases e:(Nat.ble n0 p.1&&Nat.ble n0 p.2&&Nat.blt p.1 q.2.nx&&Nat.blt p.2 q.2.nx&&Nat.ble q.2.nx OLD)with
   |true=>
    rw[bA];simp only[av]at e;obtain⟨⟨⟨⟨i,j⟩,f⟩,g⟩,c5⟩:=e;rw[cO]at f g;exact Ea Q n _ (d q p.1 p.2 c (aF i) (aF j) f g (aF c5)) d
   |false=>exact c
  .exact c
end
section
open Go.Conc (G)
variable{args:List AV}{f:AF}{fr:Frame}{g:FuncId}{kind:CallKind}{u:Value}{vs:Array Value}
def Calm(c:Frame):Prop:=∀e l,c.mode= .panicking (e::l)->e.recovered=false
def back(k:CallKind)(c:Frame)(u:Value):Frame:=match k with | .normal=>c.finish u|_=>c
def jD(K:Ctx)(ι:Nm)(nx:Nat)(k:CallKind)(c:Frame)(a:List Frame)(v:AV)(h':AH):Nat->Goroutine->World->Prop:=λd g w=>
 ∃ι' u,g=G (back k c u) a∧Grow ι ι' nx h'.nx∧Sat K ι' h' w∧RV ι' v u∧d=h'.df
def Bb(P:Program)(E:Env)(main:Bool)(r:mV):Prop:=∀(K:Ctx) (ι:Nm) (w:World) (fr c:Frame) (a:List Frame) (f:AF) (h:AH) (v:AV) (h':AH),Of K P E->r f h=some (v,h')->Sat K ι h w->RF ι f fr->
 (fr.kind= .deferred->Calm c)->Free ι h.nx h'.nx->Walk P main K (jD K ι h.nx fr.kind c a v h') h.df (G fr (c::a)) w
section
variable{P:Program}{Z:Bool}{K:Ctx}{Y:Nm}{h:AH}{w:World}{E:Env}
theorem rU{c:Frame}{a:List Frame}(d:fr.kind= .normal∨fr.kind= .deferred)(f:fr.kind= .deferred->Calm c):doReturn P Z fr (c::a) none u w= .go (G (back fr.kind c u) a) w:=by
 unfold doReturn;rcases d with d|d
 .simp only[d];rfl
 .simp only[d]
  have b:=f d;unfold back G;simp only;congr 2;split
  .rename_i e g
   have:=b _ _ g;cases this
  .rfl
theorem EN:∀(args:List AV) (i:Nat) (tm:Tr AV) (t:Nat) (a:AV),(setArgs args i tm).get t=some a->(∃j,t=i+j∧args[j]? =some a)∨tm.get t=some a
 |[],i,tm,t,a,h=> .inr h
 |b::l,i,tm,t,a,h=>by
  rcases EN l (i+1) (tm.set i b) t a h with⟨j,rfl,hj⟩|h'
  .exact .inl ⟨j+1,by omega,hj⟩
  .rcases Tr.pU h' with⟨rfl,rfl⟩|⟨_,c⟩
   .exact .inl ⟨0,rfl,rfl⟩
   .exact .inr c
theorem kL(FF:dM P E){d:Bool}(e:iW E g args d=some f)(k:dJ Y args vs.toList)(m:kind=if d then .deferred else .normal):RF Y f (Frame.enter P g vs kind):=by
 unfold iW at e;split at e
 .rename_i c n o ex p
  obtain⟨fn,h1,q,r,_,_⟩:=FF.code g c n o ex p;cases b:Nat.ble args.length n with
  |false=>rw[b]at e;cases e
  |true=>
   rw[b]at e;cases e;have s:vs.size<=n:=by
    have:=aF b;rw[k.length]at this;simpa using this
   refine⟨rfl,⟨?_,λt a u=>?_⟩,?_,rfl,rfl,m,rfl⟩
   .show(vs++Array.replicate _ undef).size=n
    simp only[h1,jX,oM,r];simp;omega
   .rcases EN args 0 .e t a u with⟨j,rfl,hj⟩|h'
    .obtain⟨v,l,hr⟩:=k.get hj
     have i:j<vs.size:=by
      have:=l;rw[aJ]at this;simpa using this.1
     show RV Y a ((vs++Array.replicate _ undef).getD (0+j) undef);rw[gF,bf,Array.getElem?_append_left i];have:vs[j]? =some v:=by simpa using l
     rw[this];exact hr
    .rw[Tr.dN]at h';cases h'
   .refine⟨_,[],rfl,?_,rfl⟩
    show Item.code _= .code c;simp only[h1,Option.bind_some,q,oM]
 .cases e
theorem zU{r:mV}(hr:Bb P E Z r)(j:Of K P E)(FF:dM P E){g:FuncId}{args:List AV}{vs:Array Value}{d:Bool}{p:AV×AH}(e:Au E r g args d h=some p)(S:Sat K Y h w)(x:dJ Y args vs.toList)
 {kind:CallKind}(y:kind=if d then .deferred else .normal){c:Frame}{a:List Frame}(s:kind= .deferred->Calm c)(l:Free Y h.nx p.2.nx):
 Walk P Z K (jD K Y h.nx kind c a p.1 p.2) h.df (G (Frame.enter P g vs kind) (c::a)) w:=by
 unfold Au at e;split at e
 .cases e
 .rename_i f m
  have R:=kL FF m x y;cases t:E.small.any (Nat.beq g)with
  |false=>
   rw[t]at e;exact hr K Y w _ c a f h p.1 p.2 j e S R s l
  |true=>
   rw[t]at e;simp only[bA]at e;split at e
   .rename_i q z
    cases e;have k:sS K Y (λi o=>h.tr.get i=some o) w:=S.toM λ_ _ h _=>h;have A:=k.less (X:=λi=>(h.sub args).tr.get i=none) (h:=h.sub args) (λi o e _=>⟨Yt e,by rw[e];simp⟩);have W:=hr (Ctx.less K Y (λi o=>h.tr.get i=some o) (λi=>(h.sub args).tr.get i=none) w k.lo k.lt) Y w _ c a f (h.sub args) q.1 q.2 ⟨j.P,j.mem,j.pk⟩ z A R s l;refine W.frame sG (Kept.refl _ _ _) ?_
    rintro H g' w' b ⟨ι',u,rfl,v,B,C,rfl⟩
    have D:Ext Y ι':=v.ext l;have n:=k.more B D b (M':=λi o=>(h.over (h.sub args) q.2).tr.get i=some o) (λi o e _=>by
     rcases wS e with h1|⟨h1,F⟩
     .exact .inl h1
     .exact .inr ⟨F,h1⟩)
    exact⟨ι',u,rfl,v,n.Mi λ_ _ h _=>h,C,rfl⟩
   .cases e
def Kg(P:Program)(Z:Bool)(E:Env)(g:FuncId)(args:List AV)(d:Bool)(h:AH)(v:AV)(h':AH):Prop:=
 ∀(K:Ctx) (Y:Nm) (w:World) (vs:Array Value) (c:Frame) (a:List Frame),Of K P E->Sat K Y h w->dJ Y args vs.toList->(d=true->Calm c)->Free Y h.nx h'.nx->
  Walk P Z K (jD K Y h.nx (if d then .deferred else .normal) c a v h') h.df (G (Frame.enter P g vs (if d then .deferred else .normal)) (c::a)) w
def afD(P:Program)(Z:Bool)(E:Env)(l:Nat)(args:List AV)(h:AH)(v:AV)(h':AH):Prop:=
 ∃g,qb h l args=some g∧∀(K:Ctx) (Y:Nm) (w:World) (fr c:Frame) (a:List Frame),Of K P E->Sat K Y h w->RF Y g fr->fr.kind= .normal->Free Y h.nx h'.nx->
  Walk P Z K (jD K Y h.nx fr.kind c a v h') h.df (G fr (c::a)) w
structure BR(P:Program)(Z:Bool)(E:Env)(o:yj):Prop where
 call:∀g args h p,o.call g args h=some p->Kg P Z E g args false h p.1 p.2
 round:∀l args h p,o.round l args h=some p->afD P Z E l args h p.1 p.2
theorem Kg.Rs{r:mV}(hr:Bb P E Z r)(FF:dM P E){d:Bool}{p:AV×AH}(e:Au E r g args d h=some p):Kg P Z E g args d h p.1 p.2:=
 λK Y w vs c a b S f i j=>zU hr b FF e S f (by cases d<;>rfl) (λk=>i (by cases d with |true=>rfl|false=>cases k)) j
theorem F6{r:mV}(hr:Bb P E Z r)(FF:dM P E):BR P Z E (outs E r):=by
 refine⟨λg args h p e=>Kg.Rs hr FF e,λl args h p e=>?_⟩;simp only[outs]at e;split at e
 .rename_i g b
  exact⟨g,b,λK Y w fr c a d S R f i=>hr K Y w fr c a g h p.1 p.2 d e S R (by rw[f];intro j;cases j) i⟩
 .cases e
end
end
section
open Go.Conc (G)
variable{b n:Nat}{f f':AF}{fr:Frame}
def A1.Keeps(x:AX):A1->Prop
 | .go f _| .call f _ _ _ _| .dcall f _ _ _| .round f _ _ _ _=>f.x=x
 | .drawn a _ _ _ _ _=>a=x
 | .alts l=>∀p∈l,p.1.x=x
 |_=>True
section
variable{E:Env}{h:AH}{x:AX}{Z:Tr AV}{X W:List AI}{Y:List AD}{r:A1}
theorem Gd{j:Option Code}(e:kX x Z X Y h j=some r):r.Keeps x:=by
 unfold kX at e
 repeat' split at e
 all_goals first
  |(cases e;done)
  |(cases e;rfl)
  |(cases e;trivial)
theorem aa3(e:Kz E x Z X Y h=some r):r.Keeps x:=by
 unfold Kz at e
 repeat' split at e
 all_goals first
  |(cases e;done)
  |(cases e;rfl)
  |(cases e;trivial)
theorem acg{d:Option Tmp}{o:Option OR}(e:Uk x Z d W Y o=some r):r.Keeps x:=by
 unfold Uk at e;split at e
 .cases e;rfl
 .cases e;trivial
 .cases e
theorem ZI{d:Option Tmp}{g:FuncId}{args:List AV}(e:H8 E x Z d W Y h g args=some r):r.Keeps x:=by
 unfold H8 at e;split at e
 .cases e;rfl
 .exact acg e
 .cases e
theorem adu{o:Oper}(e:YP E x Z W Y h o=some r):r.Keeps x:=by
 unfold YP at e;split at e
 .cases e;rfl
 .cases b:fV o.op E Z h with
  |none=>rw[b]at e;cases e
  |some q=>
   rw[b]at e;cases q with
   |val v h'=>cases e;rfl
   |call g args=>exact ZI (E:=E) e
   |yield l args=>cases e;rfl
   |rz a=>
    simp only[Rz]at e;split at e
    .cases e;rfl
    .cases e
   |alts l=>
    cases e;intro p hp;obtain⟨q,c,rfl⟩:=bP.1 hp;rfl
   |stop=>cases e;trivial
theorem TB{k:List AI}{b:Array Oper}{o:Oper}{a:List Oper}(e:oC E x Z Y h k b o a=some r):r.Keeps x:=by
 unfold oC at e;split at e
 .exact adu e
 .cases e;rfl
 .cases e
theorem KJ{k:List AI}{g:Operand}{ps:Array Tmp}{a b:Code}(e:qd E x Z Y h k g ps a b=some r):r.Keeps x:=by
 unfold qd at e;split at e
 .repeat' split at e
  all_goals first
   |(cases e;done)
   |(cases e;rfl)
 .cases e
theorem ZB{c:Code}{k:List AI}(e:HY E c k x Z Y h=some r):r.Keeps x:=by
 cases c with
 |ret=>exact Gd (j:=some .ret) e
 |cond c a b=>
  have e:(match ev Z c with
   | .bool t=>some (A1.go ⟨x,Z,.code (cond t a b)::k,Y,false⟩ h)
   |_=>none)=some r:=e
  split at e
  .cases e;rfl
  .cases e
 |exit id=>
  have e:(match yA id k with
   |some f=>some (A1.go ⟨x,Z,f,Y,false⟩ h)
   |none=>kX x Z (.code (.exit id)::k) Y h (some (.exit id)))=some r:=e
  split at e
  .cases e;rfl
  .exact Gd e
 |goto l=>
  have e:(match yw l k with
   |some f=>some (A1.go ⟨x,Z,f,Y,false⟩ h)
   |none=>kX x Z (.code (.goto l)::k) Y h (some (.goto l)))=some r:=e
  split at e
  .cases e;rfl
  .exact Gd e
 |rangeFunc g ps a b=>exact KJ (E:=E) e
 |region id i d=>cases d<;>(cases e;rfl)
 |refuse s=>cases e
 |_=>cases e;rfl
theorem Y4{i:AI}{k:List AI}(e:RQ E i k x Z Y h=some r):r.Keeps x:=by
 cases i with
 |code c=>exact ZB (E:=E) e
 |inRegion j l=>
  cases l with
  |nil=>cases e;rfl
  |cons o f=>exact TB (E:=E) e
 |inRangeFunc id=>cases e
 |endRangeFunc l=>
  have e:(match h.obj l with
   | .loop st p fn nt t ps a b d=>cond (PL st) none
    (some (A1.go ⟨x,Z,YG p k,Y,false⟩ (h.put l (.loop .exhausted p fn nt t ps a b d))))
   |_=>none)=some r:=e
  split at e
  .rename_i st m fn nt t ps a b d g
   cases st<;>first|(cases e;rfl)|cases e
  .cases e
 |beginRound=>
  have e:(match x.round with
   |some l=>(match h.obj l with
    | .loop .ready p fn nt t ps a b d=>some (A1.go ⟨x,Z,k,Y,false⟩ (h.put l (.loop .busy p fn nt t ps a b d)))
    |_=>none)
   |none=>none)=some r:=e
  repeat' split at e
  all_goals first
   |(cases e;done)
   |(cases e;rfl)
 |_=>first|(cases e;done)|(cases e;rfl)
end
theorem vX{E:Env}{h:AH}{r:A1}(e:iw E f h=some r):r.Keeps f.x:=by
 obtain⟨x,tm,todo,ds,ret⟩:=f;cases ret with
 |true=>exact aa3 (E:=E) e
 |false=>
  cases todo with
  |nil=>exact Gd (j:=none) e
  |cons i k=>exact Y4 (E:=E) e
section
variable{P:Program}{Z:Bool}{K:Ctx}{Y:Nm}{h:AH}{w:World}{E:Env}
theorem RF.kinds(R:RF Y f fr):fr.kind= .normal∨fr.kind= .deferred:=by
 rw[R.kind];cases f.x.deferred
 .exact .inl rfl
 .exact .inr rfl
theorem RF.mQ{ι':Nm}{a:Frame}(R:RF Y f fr)(b:RF ι' f' a)(c:f'.x=f.x):a.kind=fr.kind:=by
 rw[R.kind,b.kind,c]
theorem jD.up{ι':Nm}{nx b:Nat}{k:CallKind}{c:Frame}{a:List Frame}{v:AV}{h':AH}{d:Nat}{g:Goroutine}(f:Grow Y ι' nx b)(H:jD K ι' b k c a v h' d g w):jD K Y nx k c a v h' d g w:=by
 obtain⟨e,u,h1,i,j⟩:=H;exact⟨e,u,h1,f.trans i,j⟩
theorem aaj{r:mV}(hr:Bb P E Z r)(d:mV.Up r)(m:Of K P E){c:Frame}{a:List Frame}{h':AH}{v:AV}(R:RF Y f fr)(n:f'.x=f.x){h1:AH}(o:GoTo P Z K Y h w fr (c::a) (λι' b=>RF ι' f' b) h1)
 (e:r f' h1=some (v,h'))(p:fr.kind= .deferred->Calm c)(i:Free Y h.nx h'.nx)(u:h.nx<=h1.nx):
 ∃g' w' es,stepG P Z (G fr (c::a)) w= .go g' w' es∧iA K w w' es∧Walk P Z K (jD K Y h.nx fr.kind c a v h') (deafBehind h.df es) g' w':=by
 have g:=d _ _ _ _ e;obtain⟨ι',b,w',es,k1,j,q,k,s,t⟩:=o (i.sub (ah _) g);have l:b.kind=fr.kind:=R.mQ k n;have W:=hr K ι' w' b c a f' h1 v h' m e q k (by rw[l];exact p) (j.free i);refine⟨_,w',es,k1,s,?_⟩;rw[t];rw[l]at W;exact W.mono λ_ _ _ H=>jD.up j H
def Yf(P:Program)(Z:Bool)(E:Env)(r:Nat->yj):Prop:=∀(K:Ctx) (Y:Nm) (w:World) (x:AX) (tm:Tr AV) (ds:List AD) (a:Array Oper) (t:Nat) (e:List Item) (fr:Frame) (cs:List Frame) (h:AH) (b:Tr AV) (h':AH),
 Of K P E->Sat K Y h w->iQ Y x tm ds a (Region.linearise .any a t) e fr->yu a.toList (Region.before a) a=true->
 wQ E r x (Region.before a) a h a.toList 0 tm [] [] [] h=some (b,h')->Free Y h.nx h'.nx->
 Walk P Z K (λd g w=>∃ι' c,g=G c cs∧Grow Y ι' h.nx h'.nx∧Sat K ι' h' w∧iQ ι' x b ds a [] e c∧d=h'.df) h.df (G fr cs) w
theorem Bu{r:mV}:∀(l:List (AF×AH)) (v:AV) (h0:AH) (b:AV) (h':AH),xL r v h0 l=some (b,h')->b=v∧h'.df=h0.df∧h0.nx<=h'.nx∧(∀i o,h'.tr.get i=some o->h0.tr.get i=some o)∧
 ∀p∈l,∃c q n,r p.1 p.2=some c∧uG p.2.nx v n 12 c=(v,q)∧q.df=h0.df∧q.nx<=h'.nx∧∀i o,h'.tr.get i=some o->q.tr.get i=some o
 |[],v,h0,b,h',e=>by cases e;exact⟨rfl,rfl,ah _,λ_ _ h=>h,by simp⟩
 |p::l,v,h0,b,h',e=>by
  unfold xL at e;split at e
  .rename_i c s
   obtain⟨q,d⟩:∃q,q=uG p.2.nx v h0 12 c:=⟨_,rfl⟩;simp only[← d]at e;cases f:(AV.beq v q.1&&Nat.beq h0.df q.2.df)with
   |false=>rw[f]at e;cases e
   |true=>
    rw[f]at e;rw[av]at f;have t:=AV.beq_eq f.1;have u:=ak f.2;obtain⟨h1,y,k,m,z⟩:=Bu l v _ b h' e;have g:h0.nx<=(h0.meet q.2).nx:=Nat.le_max_left _ _;have j:q.2.nx<=(h0.meet q.2).nx:=Nat.le_max_right _ _;have A:(h0.meet q.2).df=h0.df:=rfl;refine⟨h1,y,aQ g k,λi o hi=>(qw (m i o hi)).1,λB a=>?_⟩;rcases ay.1 a with rfl|a
    .exact⟨c,q.2,h0,s,by rw[← d,t],u.symm,aQ j k,λi o hi=>(qw (m i o hi)).2⟩
    .exact z B a
  .cases e
theorem jD.sw{K:Ctx}{Y:Nm}{nx:Nat}{k:CallKind}{c:Frame}{f:List Frame}{v:AV}{h':AH}{d:Nat}{g:Goroutine}{w:World}{a b:Nat}(l:nx<=a)(i:a<h'.nx)(m:nx<=b)(j:b<h'.nx)(q:h'.nx<=OLD)(H:jD K Y nx k c f v h' d g w):jD K Y nx k c f (v.sw a b) (h'.sw a b) d g w:=by
 obtain⟨ι',u,e,h1,n,o,p⟩:=H;exact⟨Ti a b ι',u,e,by rw[AH.aah];exact h1.sw l i m j,n.sw (by omega) (by omega),o.sw a b,by rw[AH.acP];exact p⟩
theorem Grow.wider{ι':Nm}{a:Nat}(h:Grow Y ι' n a)(c:a<=b):Grow Y ι' n b:=⟨aQ h.le c,λi hi=>h.same i (by omega)⟩
def Ke(Y:Nm):List (AF×Option Tmp)->Frame->List Frame->Frame->List Frame->Prop
 |[],c,b,e,a=>c=e∧b=a
 |q::k,c,b,e,a=>Waits Y q.1 q.2 c∧c.kind= .normal∧∃f d,b=f::d∧Ke Y k f d e a
theorem Ke.mono{ι':Nm}(f:Ext Y ι'):∀{k:List (AF×Option Tmp)} {c:Frame} {b:List Frame} {g:Frame} {a:List Frame},Ke Y k c b g a->Ke ι' k c b g a
 |[],_,_,_,_,h=>h
 |_::_,_,_,_,_,⟨h1,i,j,d,l,m⟩=>⟨λe v u h=>h1 e v u (f.trans h),i,j,d,l,Ke.mono f m⟩
theorem EY(c:Frame)(u:Value):(c.finish u).kind=c.kind:=by
 unfold Frame.finish
 repeat' split
 all_goals rfl
theorem Yy(F:Fits P E)(FF:dM P E){r:mV}(hr:Bb P E Z r)(hup:mV.Up r):∀(n:Nat) (K:Ctx) (Y:Nm) (w:World) (fr c:Frame) (m:List Frame) (U:Frame) (j:List Frame) (f:AF) (k:List (AF×Option Tmp)) (h:AH) (v:AV) (h':AH),
 Of K P E->runK E r n f k h=some (v,h')->Sat K Y h w->RF Y f fr->fr.kind= .normal->Ke Y k c m U j->Free Y h.nx h'.nx->Walk P Z K (jD K Y h.nx .normal U j v h') h.df (G fr (c::m)) w:=by
 intro n;induction n with
 |zero=>intro K Y w fr c m U j f k h v h' hP e;cases e
 |succ n ih=>
  intro K Y w fr c m U j f k h v h' hP e0 S R hk J L;have e:Cc E r (runK E r n) k (iw E f h)=some (v,h'):=e0;clear e0;cases hs:iw E f h with
  |none=>rw[hs]at e;cases e
  |some a=>
   have hu:=oz hs;have hx:=vX hs;have ok:∀y,jW K w y->wJ P Z K Y h y fr (c::m) a:=λy D=>step_ok hP F FF (S.rely D) R hs;have V:=Rj (E:=E) hup n;rw[hs]at e;refine Walk.of rfl λy D=>?_;have S₁:=S.rely D;have t:=ok y D;cases a with
   |go f' h1=>
    have s:=V _ _ _ _ _ e;obtain⟨ι',A,w',es,k1,C,k3,T,X,k6⟩:=t (L.sub (ah _) s);have hk':A.kind= .normal:=(R.mQ T hx).trans hk;refine⟨_,w',es,k1,X,?_⟩;rw[k6];exact(ih K ι' w' A c m U j f' k h1 v h' hP e k3 T hk' (J.mono (C.ext (L.sub (ah _) s))) (C.free L)).mono λ_ _ _ H=>jD.up C H
   |ret v' h1=>
    obtain⟨u,w',es,k1,C,k3,T,X,k6⟩:OM P Z K Y h y fr (c::m) v' h1:=t;rw[rU R.kinds (λhd=>by rw[hk]at hd;cases hd)]at k1;cases k with
    |nil=>
     obtain⟨rfl,rfl⟩:=J;cases e;refine⟨G (back fr.kind c u) m,w',es,by rw[k1];simp[GStep.after],T,.stop λw₂ hr₂=>⟨Y,u,by rw[hk],?_,C.rely hr₂,k3,X⟩⟩;rw[k6];exact Grow.refl _ _
    |cons q k=>
     obtain⟨j1,j2,c1,rest1,rfl,j3⟩:=J;have R2:RF Y (vZ q v') (c.finish u):=j1 Y v' u (Ext.refl Y) k3;refine⟨G (c.finish u) (c1::rest1),w',es,by rw[k1,hk];simp[GStep.after,back],T,?_⟩;have e:runK E r n (vZ q v') k h1=some (v,h'):=e;have W:=ih K Y w' (c.finish u) c1 rest1 U j _ k h1 v h' hP e C R2 ((EY c u).trans j2) j3 (by rw[k6];exact L);rw[k6]at W;rw[X];exact W
   |call f' d g args h1=>
    simp only[Cc]at e;cases hb:E.inl.any (Nat.beq g)with
    |true=>
     rw[hb]at e;simp only[bA]at e;split at e
     .rename_i f2 hfe
      have s:=V _ _ _ _ _ e;obtain⟨ι',A,vs,w',es,k1,C,k3,T,⟨X,k5'⟩,k6,k7⟩:=t (L.sub (ah _) s);have hE:=C.ext (L.sub (ah _) s);have R2:RF ι' f2 (Frame.enter P g vs .normal):=kL FF hfe T rfl;have hk':A.kind= .normal:=by
       have R3:=X ι' .any .nilFunc (Ext.refl _) (by unfold RV;trivial);have:=R.mQ R3 hx;rw[EY]at this;exact this.trans hk
      refine⟨_,w',es,k1,k6,?_⟩;rw[k7];exact(ih K ι' w' (Frame.enter P g vs .normal) A (c::m) U j f2 ((f',d)::k) h1 v h' hP e k3 R2 rfl ⟨X,hk',c,m,rfl,J.mono hE⟩ (C.free L)).mono λ_ _ _ H=>jD.up C H
     .cases e
    |false=>
     rw[hb]at e;simp only[bC]at e;split at e
     .rename_i p hp
      have hu1:=tN hup hp;have s:=V _ _ _ _ _ e;have hu:h.nx<=h1.nx:=hu;obtain⟨ι',A,vs,w',es,k1,C,k3,T,⟨X,k5'⟩,k6,k7⟩:=t (L.sub (ah _) (by omega));have hf':=C.free L;refine⟨_,w',es,k1,k6,?_⟩;rw[k7];refine(zU hr hP FF hp k3 T rfl (λhx=>by cases hx) (hf'.sub (ah _) s)).bind ?_
      rintro d' g' w'' ⟨B,u,rfl,g1,g2,g3,rfl⟩
      have hE:=g1.ext (hf'.sub (ah _) s);have R2:=X B p.1 u hE g3;have O:(A.finish u).kind= .normal:=(R.mQ R2 hx).trans hk;have hE0:=C.ext (L.sub (ah _) (by omega));exact(ih K B w'' (A.finish u) c m U j _ k p.2 v h' hP e g2 R2 O (J.mono (hE0.trans hE)) (g1.free hf')).mono λ_ _ _ H=>jD.up (C.trans g1) H
     .cases e
   |dcall f' g args h1=>cases e
   |round f' d l args h1=>
    obtain⟨rfl,k1,C⟩:=t;simp only[Cc]at e;cases hg:qb h1 l args with
    |none=>simp only[hg]at e;cases e
    |some g=>
     simp only[hg]at e;cases hp:r g h1 with
     |none=>simp only[hp]at e;cases e
     |some p=>
      simp only[hp]at e;have hu1:=hup _ _ p.1 p.2 hp;have s:=V _ _ _ _ _ e;obtain⟨fr2,es,g1,g2,g3,g4⟩:=k1 g hg;refine⟨_,y,es,g1,g2,?_⟩;rw[g3];have hgx:g.x.deferred=false:=by
       unfold qb at hg;split at hg
       .rename_i st pd fn nt tm' ps a b d hobj
        cases hl:Nat.beq args.length ps.length with
        |false=>rw[hl]at hg;cases hg
        |true=>rw[hl]at hg;cases hg;rfl
       .cases hg
      have O:fr2.kind= .normal:=by rw[g4.kind,hgx];rfl
      have W:=hr K Y y fr2 fr (c::m) g h1 p.1 p.2 hP hp S₁ g4 (by rw[O];intro hx;cases hx) (L.sub (ah _) s);rw[O]at W;refine W.bind ?_
      rintro d' g' w'' ⟨B,u,rfl,j1,j2,j3,rfl⟩
      have hE:=j1.ext (L.sub (ah _) s);have R2:=C B p.1 u hE j3;have O:(fr.finish u).kind= .normal:=(R.mQ R2 hx).trans hk;exact(ih K B w'' (fr.finish u) c m U j _ k p.2 v h' hP e j2 R2 O (J.mono hE) (j1.free L)).mono λ_ _ _ H=>jD.up j1 H
   |drawn x tm ops k ds h1=>cases e
   |alts l=>
    cases l with
    |nil=>cases e
    |cons p l=>
     simp only[Cc]at e;split at e
     .rename_i q hq
      obtain⟨m1,m2,m3,m4,m5⟩:=Bu (r:=λf h=>runK E r n f k h) l _ _ _ _ e;subst m1;have all:∀N∈p::l,∃Q q' n' hc,runK E r n N.1 k N.2=some Q∧uG N.2.nx q.1 hc n' Q=(q.1,q')∧q'.df=h'.df∧q'.nx<=h'.nx∧∀i o,h'.tr.get i=some o->q'.tr.get i=some o:=by
       intro N I;rcases ay.1 I with rfl|I
       .exact⟨q,q.2,0,h',hq,rfl,m2.symm,m3,m4⟩
       .obtain⟨Q,q',hc,j1,j1',j2,j3,j4⟩:=m5 N I
        exact⟨Q,q',12,hc,j1,j1',j2.trans m2.symm,j3,j4⟩
      obtain⟨N,I,hgo⟩:=t;obtain⟨Q,q',n',hh,j1,jr,j2,j3,j4⟩:=all N I;have hnx:Q.2.nx=q'.nx:=by have:=Eb N.2.nx q.1 hh n' Q;rw[jr]at this;exact this.symm
      have s:=V _ _ _ Q.1 Q.2 j1;have hf2:=L.sub (ah h.nx) (by rw[hnx];exact j3:Q.2.nx<=h'.nx);obtain⟨ι',A,w',es,k1,C,k3,T,X,k6⟩:=hgo (hf2.sub (ah _) s);have hk':A.kind= .normal:=(R.mQ T (hx N I)).trans hk;refine⟨_,w',es,k1,X,?_⟩;rw[k6];refine(ih K ι' w' A c m U j N.1 k N.2 Q.1 Q.2 hP j1 k3 T hk' (J.mono (C.ext (hf2.sub (ah _) s))) (C.free hf2)).mono ?_;intro d' g'' w'' HB;have HB:=jD.up C HB;have HB2:=Ea (n0:=N.2.nx) (v:=q.1) (h:=hh) (λz=>jD K Y h.nx .normal U j z.1 z.2 d' g'' w'') n' Q HB (λz a b hz h1 h2 h3 h4 h5=>hz.sw (aQ (hu N I) h1) h3 (aQ (hu N I) h2) h4 h5);rw[jr]at HB2;obtain⟨B,u,i1,i2,i3,i4,i5⟩:=HB2;exact⟨B,u,i1,i2.wider j3,(i3.toM (M:=λi o=>h'.tr.get i=some o) λi o hi _=>j4 i o hi).Mi λ_ _ h _=>h,i4,i5.trans j2⟩
     .cases e
   |stop=>cases e
theorem VA(F:Fits P E){r:mV}(hr:Bb P E Z r)(b:mV.Up r)(f:Of K P E)(FF:dM P E){g:FuncId}{args:List AV}{vs:Array Value}{p:AV×AH}(e:MB E r g args h=some p)(S:Sat K Y h w)(i:dJ Y args vs.toList)
 {c:Frame}{a:List Frame}(j:Free Y h.nx p.2.nx):
 Walk P Z K (jD K Y h.nx .normal c a p.1 p.2) h.df (G (Frame.enter P g vs .normal) (c::a)) w:=by
 unfold MB at e;cases k:E.inl.any (Nat.beq g)with
 |true=>
  rw[k]at e;simp only[bA]at e;split at e
  .rename_i l d
   exact Yy F FF hr b _ K Y w _ c a c a l [] h p.1 p.2 f e S (kL FF d i rfl) rfl ⟨rfl,rfl⟩ j
  .cases e
 |false=>rw[k]at e;exact zU hr f FF e S i rfl (λm=>by cases m) j
theorem Ml(F:Fits P E)(FF:dM P E){r:mV}(hr:Bb P E Z r)(B:mV.Up r)(hD:Yf P Z E (λ_=>outs E r)):Bb P E Z (λf h=>vw E r (iw E f h)):=by
 intro K Y w fr c m f h v h' T e0 S R U Q;have e:vw E r (iw E f h)=some (v,h'):=e0;clear e0;cases hs:iw E f h with
 |none=>rw[hs]at e;cases e
 |some a=>
  have hu:=oz hs;have hx:=vX hs;have ok:∀s,jW K w s->wJ P Z K Y h s fr (c::m) a:=λs D=>step_ok T F FF (S.rely D) R hs;rw[hs]at e;refine Walk.of rfl λs D=>?_;have S₁:=S.rely D;have y:=ok s D;cases a with
  |go f' h1=>exact aaj hr B T R hx y e U Q hu
  |ret v' h1=>
   cases e;obtain⟨u,w',es,k1,V,k3,k4,k5,k6⟩:OM P Z K Y h s fr (c::m) v h':=y;rw[rU R.kinds U]at k1;refine⟨G (back fr.kind c u) m,w',es,by rw[k1];simp[GStep.after],k4,.stop λw₂ hr₂=>⟨Y,u,rfl,?_,V.rely hr₂,k3,k5⟩⟩;rw[k6];exact Grow.refl _ _
  |call f' d g args h1=>
   simp only[vw]at e;split at e
   .rename_i p hp
    have hu1:=Mx B hp;have C:=B _ _ _ _ e;have hu:h.nx<=h1.nx:=hu;obtain⟨ι',X,vs,w',es,k1,V,k3,k4,⟨k5,k5'⟩,k6,k7⟩:=y (Q.sub (ah _) (by omega));have L:=V.free Q;refine⟨_,w',es,k1,k6,?_⟩;rw[k7];refine(VA F hr B T FF hp k3 k4 (L.sub (ah _) C)).bind ?_
    rintro d' g' J ⟨j,u,rfl,g1,g2,g3,rfl⟩
    have hE:=g1.ext (L.sub (ah _) C);have R2:=k5 j p.1 u hE g3;have A:(X.finish u).kind=fr.kind:=R.mQ R2 hx;have W:=hr K j J (X.finish u) c m _ p.2 v h' T e g2 R2 (by rw[A];exact U) (g1.free L);rw[A]at W;exact W.mono λ_ _ _ H=>jD.up (V.trans g1) H
   .cases e
  |dcall f' g args h1=>
   simp only[vw]at e;split at e
   .rename_i p hp
    have hu1:=tN B hp;have C:=B _ _ _ _ e;have hu:h.nx<=h1.nx:=hu;obtain⟨ι',X,vs,w',es,k1,V,k3,k4,⟨k5,k5'⟩,k6,k7⟩:=y (Q.sub (ah _) (by omega));have L:=V.free Q;refine⟨_,w',es,k1,k6,?_⟩;rw[k7];refine(zU hr T FF hp k3 k4 rfl (λ_ e l hm=>by rw[k5']at hm;cases hm) (L.sub (ah _) C)).bind ?_
    rintro d' g' J ⟨j,u,rfl,g1,g2,g3,rfl⟩
    have hE:=g1.ext (L.sub (ah _) C);have R2:=k5.mono hE;have A:X.kind=fr.kind:=R.mQ R2 hx;have W:=hr K j J X c m _ p.2 v h' T e g2 R2 (by rw[A];exact U) (g1.free L);rw[A]at W;exact W.mono λ_ _ _ H=>jD.up (V.trans g1) H
   .cases e
  |round f' d l args h1=>
   obtain⟨rfl,k1,V⟩:=y;simp only[vw]at e;cases hg:qb h1 l args with
   |none=>simp only[hg]at e;cases e
   |some g=>
    simp only[hg]at e;cases hp:r g h1 with
    |none=>simp only[hp]at e;cases e
    |some p=>
     simp only[hp]at e;have hu1:=B _ _ p.1 p.2 hp;have C:=B _ _ _ _ e;obtain⟨fr2,es,g1,g2,g3,g4⟩:=k1 g hg;refine⟨_,s,es,g1,g2,?_⟩;rw[g3];have hgx:g.x.deferred=false:=by
      unfold qb at hg;split at hg
      .rename_i st pd fn nt tm' ps a b d hobj
       cases hl:Nat.beq args.length ps.length with
       |false=>rw[hl]at hg;cases hg
       |true=>rw[hl]at hg;cases hg;rfl
      .cases hg
     have A:fr2.kind= .normal:=by rw[g4.kind,hgx];rfl
     have W:=hr K Y s fr2 fr (c::m) g h1 p.1 p.2 T hp S₁ g4 (by rw[A];intro hx;cases hx) (Q.sub (ah _) C);rw[A]at W;refine W.bind ?_
     rintro d' g' J ⟨j,u,rfl,j1,j2,N,rfl⟩
     have hE:=j1.ext (Q.sub (ah _) C);have R2:=V j p.1 u hE N;have A:(fr.finish u).kind=fr.kind:=R.mQ R2 hx;have W:=hr K j J (fr.finish u) c m _ p.2 v h' T e j2 R2 (by rw[A];exact U) (j1.free Q);rw[A]at W;exact W.mono λ_ _ _ H=>jD.up j1 H
  |drawn x tm ops k ds h1=>
   obtain⟨rfl,t,d,k',k1,V,k3⟩:=y;simp only[vw]at e;cases hb:yu ops.toList (Region.before ops) ops with
   |false=>rw[hb]at e;cases e
   |true=>
    rw[hb]at e;simp only[bA]at e;split at e
    .rename_i p hp
     have hu1:=Kw (λ_=>zZ B) _ _ _ _ _ _ _ _ hp;have C:=B _ _ _ _ e;refine⟨_,_,#[],k1,iA.drawn s d,?_⟩;have W:=hD K Y { s with drawn:=d } x tm ds ops t k' _ (c::m) h1 p.1 p.2 T (S₁.drawn d) k3 hb hp (Q.sub (ah _) C);refine W.bind ?_
     rintro d' g' J ⟨j,fr'',rfl,j1,j2,N,rfl⟩
     have hE:=j1.ext (Q.sub (ah _) C);refine Walk.of rfl λw₃ hr₃=>?_;have ht:=N.todo;have hm:=N.mode;refine⟨G { fr'' with todo:=k' } (c::m),w₃,#[],by simp[G,stepG,hm,stepG.exec,ht],iA.refl w₃,?_⟩;have R2:RF j ⟨x,p.1,k,ds,false⟩ { fr'' with todo:=k' }:=⟨N.fn,N.tm,V.mono hE,N.ds,by simpa using N.mode,N.kind,N.round⟩;have A:({ fr'' with todo:=k' }:Frame).kind=fr.kind:=R.mQ R2 hx;have W:=hr K j w₃ _ c m _ p.2 v h' T e (j2.rely hr₃) R2 (by rw[A];exact U) (j1.free Q);exact W.mono λ_ _ _ H=>jD.up j1 (by rw[A]at H;exact H)
    .cases e
  |alts l=>
   cases l with
   |nil=>cases e
   |cons p l=>
    simp only[vw]at e;split at e
    .rename_i q hq
     obtain⟨m1,m2,m3,m4,m5⟩:=Bu l _ _ _ _ e;subst m1;have all:∀O∈p::l,∃q0 q' n U,r O.1 O.2=some q0∧uG O.2.nx q.1 U n q0=(q.1,q')∧q'.df=h'.df∧q'.nx<=h'.nx∧∀i o,h'.tr.get i=some o->q'.tr.get i=some o:=by
      intro O I;rcases ay.1 I with rfl|I
      .exact⟨q,q.2,0,h',hq,rfl,m2.symm,m3,m4⟩
      .obtain⟨q0,q',U,j1,j1',j2,N,j4⟩:=m5 O I
       exact⟨q0,q',12,U,j1,j1',j2.trans m2.symm,N,j4⟩
     obtain⟨O,I,hgo⟩:=y;obtain⟨q0,q',n,hh,j1,jr,j2,N,j4⟩:=all O I;have hnx:q0.2.nx=q'.nx:=by have:=Eb O.2.nx q.1 hh n q0;rw[jr]at this;exact this.symm
     obtain⟨g',w',es,n1,n2,n3⟩:=aaj hr B T R (hx O I) hgo j1 U (Q.sub (ah _) (by rw[hnx];exact N)) (hu O I);refine⟨g',w',es,n1,n2,n3.mono ?_⟩;intro d' g'' J HB;have HB2:=Ea (n0:=O.2.nx) (v:=q.1) (h:=hh) (λz=>jD K Y h.nx fr.kind c m z.1 z.2 d' g'' J) n q0 HB (λz a b hz h1 h2 h3 h4 h5=>hz.sw (aQ (hu O I) h1) h3 (aQ (hu O I) h2) h4 h5);rw[jr]at HB2;obtain⟨j,u,i1,i2,i3,i4,i5⟩:=HB2;exact⟨j,u,i1,i2.wider N,(i3.toM (M:=λi o=>h'.tr.get i=some o) λi o hi _=>j4 i o hi).Mi λ_ _ h _=>h,i4,i5.trans j2⟩
    .cases e
  |stop=>cases e
end
end
section
open Go.Conc (G)
variable{α:Type}{i j nt:Nat}{tmps:Array Value}{ι:Nm}
theorem Tr.AL{x:α}{t:Tr α}(h:i<1000000):(t.set i x).get j=if j=i then some x else t.get j:=
 (λ_=>Tr.BA t i j x) h
theorem Ai{x:AX}{d:Option Tmp}{v:AV}{tm:Tr AV}{t:Nat}(h:∀i,d=some i->i<1000000):(fin x d v tm).get t=if d=some t then some (cond (Nat.blt t x.nt) v gH)else tm.get t:=by
 cases d with
 |none=>simp[fin]
 |some i=>
  simp only[fin];rw[Tr.AL (h i rfl)];by_cases a:t=i
  .rw[aH a,aH (by rw[a]),a]
  .rw[au a,au (by intro e;cases e;exact a rfl)]
theorem RT.congr{tm tm':Tr AV}(h:RT ι nt tm tmps)(b:∀t,tm'.get t=tm.get t):RT ι nt tm' tmps:=⟨h.1,λt a c=>h.2 t a (by rw[← b];exact c)⟩
def Alike(tm tm':Tr AV)(l:List Operand):Prop:=∀y∈l,ev tm y=ev tm' y
theorem uq{tm tm':Tr AV}:∀{l:List Operand},Alike tm tm' l->evs tm l=evs tm' l
 |[],_=>rfl
 |y::l,h=>by
  unfold evs;rw[h y (by simp),uq (l:=l) λz a=>h z (by simp[a])]
theorem EB{tm tm':Tr AV}:∀{l:List (Nat×Operand)},Alike tm tm' (l.map (·.2))->OU tm l=OU tm' l
 |[],_=>rfl
 |y::l,h=>by
  unfold OU;rw[h y.2 (by simp),EB (l:=l) λz a=>h z (by simp at a ⊢;exact .inr a)]
theorem Aj{tm tm':Tr AV}{o:Option Operand}(h:∀y,o=some y->ev tm y=ev tm' y):Lr tm o=Lr tm' o:=by
 cases o with
 |none=>rfl
 |some y=>show some (ev tm y)=some (ev tm' y);rw[h y rfl]
section
variable{E:Env}{Y Z:Tr AV}{h h':AH}
theorem MH{op:Op}(e:Alike Y Z op.operands.toList):fA op E Y h=fA op E Z h:=by
 cases op
 case move x=>show some (ev Y x)=some (ev Z x);rw[e x (by simp[Op.operands])]
 case assign x=>show some (ev Y x)=some (ev Z x);rw[e x (by simp[Op.operands])]
 case pick c a b=>
  show(match ev Y c with | .bool t=>some (cond t (ev Y a) (ev Y b))|_=>none)=(match ev Z c with | .bool t=>some (cond t (ev Z a) (ev Z b))|_=>none);rw[e c (by simp[Op.operands]),e a (by simp[Op.operands]),e b (by simp[Op.operands])]
 case build t ps=>
  show Ib E t (OU Y ps.toList)=Ib E t (OU Z ps.toList);rw[EB (λy f=>e y (by simpa[Op.operands]using f))]
 case load t a=>
  show(match ev Y a with | .ptr id off=>loadT E h t id off|_=>none)=(match ev Z a with | .ptr id off=>loadT E h t id off|_=>none);rw[e a (by simp[Op.operands])]
 case nilCheck x=>show wW (ev Y x)=wW (ev Z x);rw[e x (by simp[Op.operands])]
 case binOp op t x y j=>show Xw E op t x y (unB (ev Y x)) (unB (ev Y y))=Xw E op t x y (unB (ev Z x)) (unB (ev Z y));rw[e x (by simp[Op.operands]),e y (by simp[Op.operands])]
 case unOp op t x=>show unA op (ev Y x)=unA op (ev Z x);rw[e x (by simp[Op.operands])]
 case convert s d x=>show N7 E s d (ev Y x)=N7 E s d (ev Z x);rw[e x (by simp[Op.operands])]
 case makeInterface t x=>show uK E t (ev Y x)=uK E t (ev Z x);rw[e x (by simp[Op.operands])]
 case makeFunc g a b=>
  have h1:=uq (l:=a.toList) (λy f=>e y (by simp only[Op.operands,dz];exact bF.2 (.inl f)));have k:=uq (l:=b.toList) (λy f=>e y (by simp only[Op.operands,dz];exact bF.2 (.inr f)));clear e;cases g<;>try rfl
  show some (AV.fn _ (evs Y a.toList) (evs Y b.toList))=some (AV.fn _ (evs Z a.toList) (evs Z b.toList));rw[h1,k]
 case slice t x lo hi mx=>
  show iN E t (l9 E (ev Y x)) (Lr Y lo) (Lr Y hi) (Lr Y mx)=iN E t (l9 E (ev Z x)) (Lr Z lo) (Lr Z hi) (Lr Z mx);rw[e x (by simp[Op.operands]),Aj (o:=lo) (λy f=>e y (by subst f;simp[Op.operands])),Aj (o:=hi) (λy f=>e y (by subst f;simp[Op.operands])),Aj (o:=mx) (λy f=>e y (by subst f;simp[Op.operands]))]
 case fieldAddr s x i=>show uO E s (ev Y x) i=uO E s (ev Z x) i;rw[e x (by simp[Op.operands])]
 case field s x i=>show Ht E s (ev Y x) i=Ht E s (ev Z x) i;rw[e x (by simp[Op.operands])]
 case indexAddr t x i=>show aR E t (l9 E (ev Y x)) (ev Y i)=aR E t (l9 E (ev Z x)) (ev Z i);rw[e x (by simp[Op.operands]),e i (by simp[Op.operands])]
 case index t x i=>show Hg E t (ev Y x) (ev Y i)=Hg E t (ev Z x) (ev Z i);rw[e x (by simp[Op.operands]),e i (by simp[Op.operands])]
 case lookup t x i ok=>show vF E h t (ev Y x) (ev Y i) ok=vF E h t (ev Z x) (ev Z i) ok;rw[e x (by simp[Op.operands]),e i (by simp[Op.operands])]
 case entry it=>show zf h (ev Y it)=zf h (ev Z it);rw[e it (by simp[Op.operands])]
 case typeAssert x t j ok=>show Dc E j (ev Y x) ok=Dc E j (ev Z x) ok;rw[e x (by simp[Op.operands])]
 case extract x i=>show ze (ev Y x) i=ze (ev Z x) i;rw[e x (by simp[Op.operands])]
 case call c=>
  show(match Fa c with |some b=>uH E h b (evs Y c.args.toList) c.argTypes.toList|none=>none)=(match Fa c with |some b=>uH E h b (evs Z c.args.toList) c.argTypes.toList|none=>none);rw[uq (λy f=>e y (by simp only[Op.operands,Call.operands,dz];exact bF.2 (.inr f)))]
 all_goals rfl
theorem G6{op:Op}(e:Alike Y Z op.operands.toList):fV op E Y h=fV op E Z h:=by
 cases op
 case box t x=>show Da E h t (ev Y x)=Da E h t (ev Z x);rw[e x (by simp[Op.operands])]
 case buildSlice t l ps=>
  show iG E h t l (OU Y ps.toList)=iG E h t l (OU Z ps.toList);rw[EB (λy i=>e y (by simpa[Op.operands]using i))]
 case store t a x=>show fU E h t (ev Y a) (ev Y x)=fU E h t (ev Z a) (ev Z x);rw[e x (by simp[Op.operands]),e a (by simp[Op.operands])]
 case insert t m k x=>show iZ E h t (ev Y m) (ev Y k) (ev Y x)=iZ E h t (ev Z m) (ev Z k) (ev Z x);rw[e x (by simp[Op.operands]),e m (by simp[Op.operands]),e k (by simp[Op.operands])]
 case mapUpdate t m k x=>show iZ E h t (ev Y m) (ev Y k) (ev Y x)=iZ E h t (ev Z m) (ev Z k) (ev Z x);rw[e x (by simp[Op.operands]),e m (by simp[Op.operands]),e k (by simp[Op.operands])]
 case mapEntry t m k=>show nH E h t (ev Y m) (ev Y k)=nH E h t (ev Z m) (ev Z k);rw[e m (by simp[Op.operands]),e k (by simp[Op.operands])]
 case entryStore t m s x=>show kD h (ev Y m) (ev Y s) (ev Y x)=kD h (ev Z m) (ev Z s) (ev Z x);rw[e x (by simp[Op.operands]),e m (by simp[Op.operands]),e s (by simp[Op.operands])]
 case convert s d x=>show E8 E s d (ev Y x) h=E8 E s d (ev Z x) h;rw[e x (by simp[Op.operands])]
 case makeMap t r=>show j5 E h t (Lr Y r)=j5 E h t (Lr Z r);rw[Aj (o:=r) (λy i=>e y (by subst i;simp[Op.operands]))]
 case makeSlice t l c=>show eF E h t (ev Y l) (ev Y c)=eF E h t (ev Z l) (ev Z c);rw[e l (by simp[Op.operands]),e c (by simp[Op.operands])]
 case range t x=>show wh E h t (ev Y x)=wh E h t (ev Z x);rw[e x (by simp[Op.operands])]
 case next it isS=>show ET h (ev Y it) isS=ET h (ev Z it) isS;rw[e it (by simp[Op.operands])]
 case call c=>
  show AU c E Y h=AU c E Z h;have h1:evs Y c.args.toList=evs Z c.args.toList:=uq (λy i=>e y (by simp only[Op.operands,Call.operands,dz];exact bF.2 (.inr i)));unfold AU;cases n:c.callee with
  |builtin b=>simp only[h1]
  |value g=>
   have j:ev Y g=ev Z g:=e g (by simp only[Op.operands,Call.operands,dz,n];exact bF.2 (.inl (by simp)));simp only[h1,j]
  |invoke r m=>
   have j:ev Y r=ev Z r:=e r (by simp only[Op.operands,Call.operands,dz,n];exact bF.2 (.inl (by simp)));simp only[h1,j]
 case defer c=>
  have h1:evs Y c.args.toList=evs Z c.args.toList:=uq (λy i=>e y (by simp only[Op.operands,Call.operands,dz];exact bF.2 (.inr i)));show(match c.callee with
   | .value g=>(match ev Y g with
     | .fn f a b=>some (OR.rz ⟨.fn f a b,evs Y c.args.toList⟩)
     |_=>none)
   |_=>none)=(match c.callee with
   | .value g=>(match ev Z g with
     | .fn f a b=>some (OR.rz ⟨.fn f a b,evs Z c.args.toList⟩)
     |_=>none)
   |_=>none)
  cases n:c.callee with
  |value g=>
   have j:ev Y g=ev Z g:=e g (by simp only[Op.operands,Call.operands,dz,n];exact bF.2 (.inl (by simp)));simp only[h1,j]
  |_=>rfl
 all_goals rfl
theorem MG{op:Op}(hr:oD op=false):fA op E Y h=fA op E Y h':=by
 cases op<;>first|rfl|cases hr
theorem KU(a:h.tr=h'.tr)(i:Nat):h.obj i=h'.obj i:=by unfold AH.obj;rw[a]
theorem Wd(a:h.tr=h'.tr)(t:TypeId)(i o:Nat):loadT E h t i o=loadT E h' t i o:=by
 unfold loadT jw;rw[KU a]
theorem VG (ht : h.tr = h'.tr) {op : Op} : fA op E Y h = fA op E Y h' := by
 cases op
 case load t a =>
  show (match ev Y a with | .ptr id off => loadT E h t id off | _ => none) = (match ev Y a with | .ptr id off => loadT E h' t id off | _ => none)
  cases ev Y a <;> first | rfl | exact Wd ht _ _ _
 case lookup t x i ok =>
  show vF E h t (ev Y x) (ev Y i) ok = vF E h' t (ev Y x) (ev Y i) ok
  have : ∀ x, M9 h x = M9 h' x := fun x => by unfold M9; cases x <;> first | rfl | simp only [KU ht]
  unfold vF
  simp only [this]
 case entry it =>
  show zf h (ev Y it) = zf h' (ev Y it)
  unfold zf
  simp only [KU ht]
 case call c =>
  show (match Fa c with | some b => uH E h b (evs Y c.args.toList) c.argTypes.toList | none => none) = (match Fa c with | some b => uH E h' b (evs Y c.args.toList) c.argTypes.toList | none => none)
  have : ∀ t x, T9 E h t x = T9 E h' t x := fun t x => by unfold T9; simp only [KU ht]
  have h2 : ∀ b as ts, uH E h b as ts = uH E h' b as ts := fun b as ts => by unfold uH; simp only [this]
  simp only [h2]
 all_goals rfl
theorem xP{op:Op}(y:kI op=true){v:AV}(e:fV op E Y h=some (.val v h')):∃o,h'=h.new o∧o.live∧∀d:AH,d.nx=h.nx->fV op E Y d=some (.val v (d.new o)):=by
 cases op<;>try (cases y;done)
 case alloc t=>
  have e:sQ E h t=some (.val v h'):=e;unfold sQ at e;split at e
  .rename_i ti s
   cases e;refine⟨_,rfl,trivial,λd f=>?_⟩;show sQ E d t=_;unfold sQ;rw[s,f]
  .cases e
 case box t x=>
  have e:Da E h t (ev Y x)=some (.val v h'):=e;unfold Da at e;split at e
  .rename_i ti s
   cases u:(ev Y x).isAny with
   |true=>rw[u]at e;cases e
   |false=>
    rw[u]at e;cases e;refine⟨_,rfl,trivial,λd f=>?_⟩;show Da E d t (ev Y x)=_;unfold Da;rw[s,u,f];rfl
  .cases e
 case buildSlice t l ps=>
  have e:iG E h t l (OU Y ps.toList)=some (.val v h'):=e;unfold iG at e;split at e
  .rename_i el p
   split at e
   .rename_i j w
    cases g:Nat.blt 65536 (l*j.size)with
    |true=>rw[g]at e;cases e
    |false=>
     rw[g]at e;simp only[bC]at e;cases q:y9 (λi=>some (i*j.size,j.size)) (rep l j.zero) (OU Y ps.toList)with
     |none=>rw[q]at e;cases e
     |some cs=>
      rw[q]at e;cases e;refine⟨_,rfl,trivial,λd f=>?_⟩;show iG E d t l (OU Y ps.toList)=_;unfold iG;rw[p];simp only[w,g,q,f];rfl
   .cases e
  .cases e
 case makeSlice t l c=>
  have e:eF E h t (ev Y l) (ev Y c)=some (.val v h'):=e;unfold eF at e;split at e
  .rename_i el k1 n A m p z q
   split at e
   .rename_i j w
    cases g:(decide (0<=n∧n<=m∧m<=1048576)&&Nat.ble j.bytes 4096)with
    |false=>rw[g]at e;cases e
    |true=>
     rw[g]at e;cases e;refine⟨_,rfl,trivial,λd f=>?_⟩;show eF E d t (ev Y l) (ev Y c)=_;unfold eF;rw[p,z,q];simp only[w,g,f];rfl
   .cases e
  .cases e
 case makeMap t r=>
  have e:j5 E h t (Lr Y r)=some (.val v h'):=e;unfold j5 at e;split at e
  .rename_i hr
   cases e;refine⟨_,rfl,trivial,λd f=>?_⟩;show j5 E d t (Lr Y r)=_;rw[hr];unfold j5;rw[f]
  .rename_i k n hr
   split at e
   .rename_i a b p
    cases e;refine⟨_,rfl,trivial,λd f=>?_⟩;show j5 E d t (Lr Y r)=_;rw[hr];unfold j5;simp only[p,f]
   .cases e
  .cases e
end
end
section
open Go.Conc (G)
variable{tm:Tr AV}{v:AV}
structure wK where
 tm:Nat->Tr AV
 h:Nat->AH
 ps:Nat->List (Nat×Nat×AO)
 v:Nat->AV
 ob:Nat->AO
 kind:Nat->Nat
 n:Nat
section
variable(E:Env)(r:Nat->yj)(x:AX)(Z:Array Oper)(b:Array Nat)
def X6(T:wK)(a:List DQ)(j:Nat)(o:Oper):Prop:=
 (T.kind j=0∧eX o Z (T.tm j)=some false∧T.v j=gH∧T.h (j+1)=T.h j∧T.ps (j+1)=T.ps j)∨
 (T.kind j=1∧eX o Z (T.tm j)=some true∧kI o.op=true∧(T.h j).nx<1000000∧(∃h',fV o.op E (T.tm j) (T.h j)=some (.val (T.v j) h')∧T.h (j+1)=⟨(T.h j).tr,h'.nx,h'.df⟩∧T.ob j=h'.obj (T.h j).nx)∧T.ps (j+1)=(j,(T.h j).nx,T.ob j)::T.ps j)∨
 (T.kind j=2∧eX o Z (T.tm j)=some true∧fA o.op E (T.tm j) (T.h j)=some (T.v j)∧T.h (j+1)=T.h j∧T.ps (j+1)=T.ps j∧(oD o.op=true->⟨o.op,j,T.tm j,T.v j⟩∈a))∨
 (T.kind j=3∧eX o Z (T.tm j)=some true∧vE E (r j) (wake (b.getD j 0) (T.ps j) (T.h j)).1 (fV o.op E (T.tm j) (wake (b.getD j 0) (T.ps j) (T.h j)).1)=some (T.v j,T.h (j+1))∧T.ps (j+1)=(wake (b.getD j 0) (T.ps j) (T.h j)).2)
def Step(T:wK)(a:List DQ)(j:Nat):Prop:=∃o,Z[j]? =some o∧T.tm (j+1)=fin x o.dst (T.v j) (T.tm j)∧X6 E r Z b T a j o
end
def nV(T:wK)(i k:Nat):List (Nat×AH):=((List.range' i k).filter λj=>T.kind j==3).map λj=>(j,T.h (j+1))
section
variable{E:Env}{r:Nat->yj}{x:AX}{Z:Array Oper}{b:Array Nat}{Y:AH}
def wK.lay(T:wK)(i:Nat)(tm:Tr AV)(h:AH)(ps:List (Nat×Nat×AO))(v:AV)(ob:AO)(kind:Nat):wK where
 tm:=λj=>if j=i then tm else T.tm j
 h:=λj=>if j=i then h else T.h j
 ps:=λj=>if j=i then ps else T.ps j
 v:=λj=>if j=i then v else T.v j
 ob:=λj=>if j=i then ob else T.ob j
 kind:=λj=>if j=i then kind else T.kind j
 n:=T.n
theorem Step.lay{T:wK}{a:List DQ}{i j:Nat}{tm:Tr AV}{h:AH}{ps:List (Nat×Nat×AO)}{v:AV}{ob:AO}{k:Nat}(hj:i+1<=j)(H:Step E r x Z b T a j):Step E r x Z b (T.lay i tm h ps v ob k) a j:=by
 have h1:j≠i:=by omega
 have c:j+1≠i:=by omega
 unfold Step X6 wK.lay at*;simp only[au h1,au c];exact H
theorem TW{T:wK}{i k:Nat}{h:AH}{ps:List (Nat×Nat×AO)}{ob:AO}{c:Nat}:nV (T.lay i tm h ps v ob c) i (k+1)=(if c=3 then[(i,T.h (i+1))]else[])++nV T (i+1) k:=by
 have a:((List.range' (i+1) k).filter λj=>(T.lay i tm h ps v ob c).kind j==3).map (λj=>(j,(T.lay i tm h ps v ob c).h (j+1)))=nV T (i+1) k:=by
  unfold nV;have e1:∀j∈List.range' (i+1) k,((T.lay i tm h ps v ob c).kind j==3)=(T.kind j==3):=λj hj=>by
   have:j≠i:=by have:=List.mem_range'_1.1 hj;omega
   simp[wK.lay,this]
  rw[List.filter_congr e1];refine List.map_congr_left λj hj=>?_;have:j+1≠i:=by have:=List.mem_range'_1.1 (fB.1 hj).1;omega
  simp[wK.lay,this]
 show((List.range' i (k+1)).filter _).map _=_;rw[oP,kJ];by_cases d:c=3
 .have e:((T.lay i tm h ps v ob c).kind i==3)=true:=by simp[wK.lay,d]
  rw[aH e,aH d,lW,a];simp[wK.lay]
 .have e:¬((T.lay i tm h ps v ob c).kind i==3)=true:=by simp[wK.lay,d]
  rw[au e,au d,a];rfl
theorem Vz{n:Nat}(hn:n<=Z.size):∀(l:List Oper) (i:Nat) (tm:Tr AV) (u:List DQ) (f:List (Nat×AH)) (ps:List (Nat×Nat×AO)) (h:AH) (p:Tr AV×AH),i<=n->l=(Z.toList.take n).drop i->
 wQ E r x b Z Y l i tm u f ps h=some p->∃(T:wK) (a:List DQ),T.n=n∧T.tm i=tm∧T.h i=h∧T.ps i=ps∧(∀j,i<=j->j<n->Step E r x Z b T a j)∧(∀q∈u,q∈a)∧
  oK b (f.reverse++nV T i (n - i))=true∧(∀q∈a,qE E b (f.reverse++nV T i (n - i)) Y q=true)∧p=(T.tm n,oW (T.ps n) (T.h n)):=by
 intro l;induction l with
 |nil=>
  intro i tm u f ps h p hi C e;have L:i=n:=by
   rcases aZ i (Z.toList.take n).length with h|h
   .rw[bL h]at C;cases C
   .simp at h;omega
  subst L;unfold wQ at e;cases D:(oK b f.reverse&&u.all (qE E b f.reverse Y))with
  |false=>rw[D]at e;cases e
  |true=>
   rw[D]at e;rw[av,d9]at D;cases e;refine⟨⟨λ_=>tm,λ_=>h,λ_=>ps,λ_=> .any,λ_=> .dead,λ_=>0,i⟩,u,rfl,rfl,rfl,rfl,λj h1 V=>by omega,λq c=>c,?_,?_,rfl⟩
   .simp[nV];exact D.1
   .simpa[nV]using D.2
 |cons o os X=>
  intro i tm u f ps h p hi C e;have hlt:i<n:=by
   rcases aZ i (Z.toList.take n).length with h|h
   .simp at h;omega
   .rw[iD h]at C;cases C
  have F:i<(Z.toList.take n).length:=by simp;omega
  have G:=C;rw[bL F]at G;injection G with M N;have ho:Z[i]? =some o:=by
   rw[M,bX (by omega)];simp
  have hk:n - i=(n - (i+1))+1:=by omega
  have go:∀{s:Tr AV} {g:List DQ} {hs1:List (Nat×AH)} {t:List (Nat×Nat×AO)} {h1:AH} (v:AV) (ob:AO) (k:Nat),wQ E r x b Z Y os (i+1) s g hs1 t h1=some p->s=fin x o.dst v tm->(∀q∈u,q∈g)->
   (hs1.reverse=f.reverse++(if k=3 then[(i,h1)]else[]))->
   (∀T a,T.tm i=tm->T.h i=h->T.ps i=ps->T.v i=v->T.ob i=ob->T.kind i=k->T.h (i+1)=h1->T.ps (i+1)=t->(∀q∈g,q∈a)->X6 E r Z b T a i o)->
   ∃(T:wK) (a:List DQ),T.n=n∧T.tm i=tm∧T.h i=h∧T.ps i=ps∧(∀j,i<=j->j<n->Step E r x Z b T a j)∧(∀q∈u,q∈a)∧
   oK b (f.reverse++nV T i (n - i))=true∧(∀q∈a,qE E b (f.reverse++nV T i (n - i)) Y q=true)∧p=(T.tm n,oW (T.ps n) (T.h n)):=by
   intro s g hs1 t h1 v ob k e1 O P Q R;obtain⟨T,a,t0,t1,t2,t3,t4,t5,t6,t7,t8⟩:=X (i+1) s g hs1 t h1 p (by omega) N e1;have W:f.reverse++nV (T.lay i tm h ps v ob k) i (n - i)=hs1.reverse++nV T (i+1) (n - (i+1)):=by
    rw[hk,TW,Q,t2,fC]
   have hs1:n≠i:=by omega
   refine⟨T.lay i tm h ps v ob k,a,t0,by simp[wK.lay],by simp[wK.lay],by simp[wK.lay],λj h1 V=>?_,λq c=>t5 q (P q c),by rw[W];exact t6,by rw[W];exact t7,by rw[t8];simp[wK.lay,hs1]⟩;rcases mX h1 with rfl|h1
   .refine⟨o,ho,?_,R _ _ (by simp[wK.lay]) (by simp[wK.lay]) (by simp[wK.lay]) (by simp[wK.lay]) (by simp[wK.lay]) (by simp[wK.lay]) (by simp[wK.lay,t2]) (by simp[wK.lay,t3]) t5⟩
    simp[wK.lay,t1,O]
   .exact(t4 j h1 V).lay h1
  unfold wQ at e;split at e
  .cases e
  .rename_i H
   exact go gH .dead 0 e rfl (λq c=>c) (by simp) (λT a m d w y I z A B J=> .inl ⟨z,by rw[m];exact H,y,by rw[A,d],by rw[B,w]⟩)
  .rename_i H
   cases S:kI o.op with
   |true=>
    rw[S]at e;simp only[bA]at e;split at e
    .rename_i v h' U
     cases K:Nat.blt h.nx 1000000 with
     |false=>rw[K]at e;cases e
     |true=>
      rw[K]at e;rw[cO]at K;refine go v (h'.obj h.nx) 1 e rfl (λq c=>c) (by simp) (λT a m d w y I z A B J=> .inr (.inl ⟨z,by rw[m];exact H,S,by rw[d];exact K,⟨h',by rw[m,d,y];exact U,by rw[A,d],by rw[I,d]⟩,by rw[B,w,d,I]⟩))
    .cases e
   |false=>
    rw[S]at e;simp only[bC]at e;split at e
    .rename_i v c
     refine go v .dead 2 e rfl (λq c=>?_) (by simp) (λT a m d w y I z A B J=> .inr (.inr (.inl ⟨z,by rw[m];exact H,by rw[m,d,y];exact c,by rw[A,d],by rw[B,w],λhr=>?_⟩)))
     .cases oD o.op with
      |true=>exact bg _ c
      |false=>exact c
     .refine J _ ?_
      rw[hr,m,y];exact bK ..
    .split at e
     .rename_i q c
      refine go q.1 .dead 3 e rfl (λq c=>c) (by simp) (λT a m d w y I z A B J=> .inr (.inr (.inr ⟨z,by rw[m];exact H,by rw[m,d,w,y,A];exact c,by rw[B,d,w]⟩)))
     .cases e
theorem EW(acc:Array Nat):∀(l:List Edge) (s p:Nat),(l.foldl (λs e=>if Region.binds .any e then s ||| 2 ^ e.on ||| acc.getD e.on 0 else s) s).testBit p=true->
 s.testBit p=true∨∃e∈l,Region.binds .any e=true∧(p=e.on∨(acc.getD e.on 0).testBit p=true)
 |[],s,p,h=> .inl h
 |e::l,s,p,h=>by
  rw[jZ]at h;rcases EW acc l _ p h with h|⟨c,d,h1,f⟩
  .by_cases a:Region.binds .any e=true
   .rw[aH a]at h
    rw[Nat.testBit_or,Nat.testBit_or,eD,eD]at h;rcases h with(h|h)|h
    .exact .inl h
    .exact .inr ⟨e,by simp,a,.inl (by rw[Nat.testBit_two_pow]at h;have:=bZ h;omega)⟩
    .exact .inr ⟨e,by simp,a,.inr h⟩
   .rw[au a]at h;exact .inl h
  .exact .inr ⟨c,bg _ d,h1,f⟩
theorem Ie:∀(l:List Oper) (acc:Array Nat) (Z:List Oper),Z.drop acc.size=l->(∀i o,i<acc.size->Z[i]? =some o->∀p,(acc.getD i 0).testBit p=true->∃e∈o.after,Region.binds .any e=true∧(p=e.on∨(e.on<i∧(acc.getD e.on 0).testBit p=true)))->
 ∀i o,Z[i]? =some o->∀p,((l.foldl (λacc o=>acc.push (o.after.foldl (λs e=>if Region.binds .any e then s ||| 2 ^ e.on ||| acc.getD e.on 0 else s) 0)) acc).getD i 0).testBit p=true->
  ∃e∈o.after,Region.binds .any e=true∧(p=e.on∨(e.on<i∧((l.foldl (λacc o=>acc.push (o.after.foldl (λs e=>if Region.binds .any e then s ||| 2 ^ e.on ||| acc.getD e.on 0 else s) 0)) acc).getD e.on 0).testBit p=true))
 |[],acc,Z,m,z,i,o,n,p,hp=>by
  have F:Z.length<=acc.size:=by
   rcases aZ acc.size Z.length with h|h
   .rw[bL h]at m;cases m
   .exact h
  have hi:i<Z.length:=by
   rcases aZ i Z.length with h|h
   .exact h
   .rw[gK h]at n;cases n
  exact z i o (by omega) n p hp
 |G::l,acc,Z,m,z,i,o,n,p,hp=>by
  have t:acc.size<Z.length:=by
   rcases aZ acc.size Z.length with h|h
   .exact h
   .rw[iD h]at m;cases m
  have u:=m;rw[bL t]at u;injection u with e1 e2;simp only[jZ]at hp ⊢;refine Ie l _ Z (by rw[nD];exact e2) (λj v hj f q w=>?_) i o n p hp;rw[nD]at hj;have a:∀k y,k<acc.size->(acc.push y).getD k 0=acc.getD k 0:=λk y H=>by
   rw[bf,bf,kr];rw[au (by omega)]
  rcases aZ j acc.size with g|g
  .rw[a j _ g]at w
   obtain⟨e,A,B,c⟩:=z j v g f q w;refine⟨e,A,B,c.imp id λc=>⟨c.1,?_⟩⟩;rw[a _ _ (by omega)];exact c.2
  .have C:j=acc.size:=by omega
   subst C;have D:v=G:=by
    rw[aK t]at f;cases f;exact e1
   subst D;have:(acc.push (v.after.foldl (λs e=>if Region.binds .any e then s ||| 2 ^ e.on ||| acc.getD e.on 0 else s) 0)).getD acc.size 0=v.after.foldl (λs e=>if Region.binds .any e then s ||| 2 ^ e.on ||| acc.getD e.on 0 else s) 0:=by
    rw[bf,kr];simp
   rw[this,← mY]at w;rcases EW acc v.after.toList 0 q w with h|⟨e,A,B,c⟩
   .simp at h
   .refine⟨e,Array.mem_toList_iff.1 A,B,?_⟩
    rcases c with c|c
    .exact .inl c
    .right
     have d:e.on<acc.size:=by
      rcases aZ e.on acc.size with h|h
      .exact h
      .rw[bf,Array.getElem?_eq_none h]at c
       simp at c
     exact⟨d,by rw[a _ _ d];exact c⟩
theorem zo{Z:Array Oper}{i:Nat}{o:Oper}(a:Z[i]? =some o){p:Nat}(hp:((Region.before Z).getD i 0).testBit p=true):
 ∃e∈o.after,Region.binds .any e=true∧(p=e.on∨(e.on<i∧((Region.before Z).getD e.on 0).testBit p=true)):=by
 have h:=Ie Z.toList #[] Z.toList rfl (λi o hi=>by simp at hi) i o (by simpa using a) p;have e:Region.before Z=Z.toList.foldl (λacc o=>acc.push (o.after.foldl (λs e=>if Region.binds .any e then s ||| 2 ^ e.on ||| acc.getD e.on 0 else s) 0)) #[]:=by
  unfold Region.before;rw[← mY]
 rw[e]at hp ⊢;exact h hp
theorem Oe{Z:Array Oper}{i:Nat}(hi:Z.size<=i):(Region.before Z).getD i 0=0:=by
 have a:∀(l:List Oper) (acc:Array Nat),(l.foldl (λacc o=>acc.push (o.after.foldl (λs e=>if Region.binds .any e then s ||| 2 ^ e.on ||| acc.getD e.on 0 else s) 0)) acc).size=acc.size+l.length:=by
  intro l;induction l with
  |nil=>intro acc;rfl
  |cons o l c=>intro acc;rw[jZ,c,nD,gI];omega
 have:(Region.before Z).size=Z.size:=by
  unfold Region.before;rw[← mY,a];simp
 rw[bf,Array.getElem?_eq_none (by omega)];rfl
structure mH(Z:Array Oper):Prop where
 edge:∀(i:Nat) (o:Oper),Z[i]? =some o->∀e∈o.after,Region.binds .any e=true->e.on<i
 dst:∀(i:Nat) (o:Oper) (d:Nat),Z[i]? =some o->o.dst=some d->d<1000000
 comp:∀(i j:Nat) (oi oj:Oper) (d:Nat),Z[i]? =some oi->Z[j]? =some oj->i≠j->oj.dst=some d->(oi.dst=some d∨d∈oi.looksAt Z)->((Region.before Z).getD i 0).testBit j=true∨((Region.before Z).getD j 0).testBit i=true
theorem ME{Z:Array Oper}(h:yu Z.toList (Region.before Z) Z=true):mH Z:=by
 unfold yu at h;rw[av,d9,d9]at h;obtain⟨h1,q⟩:=h;have g:∀{i:Nat} {o:Oper},Z[i]? =some o->(o,i)∈Z.toList.zipIdx:=λ{i o} a=>by
  rw[List.mem_zipIdx_iff_getElem?];simpa using a
 refine⟨λi o a e s k=>?_,λi o d a l=>?_,λi j p t d hi hj m l n=>?_⟩
 .have:=h1 _ (g a)
  rw[av,d9]at this;have:=this.1 e (by simpa using s);simp only[k,Bool.not_true,Bool.false_or]at this;rw[cO]at this;exact this
 .have:=h1 _ (g a)
  rw[av]at this;have:=this.2;simp only[l]at this;rw[cO]at this;exact this
 .have:=q _ (g hi)
  rw[d9]at this;have:=this _ (g hj);simp only[l]at this;have c:Nat.beq i j=false:=by cases k:Nat.beq i j with |false=>rfl|true=>exact aP (ak k) m
  have f:((p.dst==some d)||(p.looksAt Z).contains d)=true:=by
   rw[eD];rcases n with h|h
   .left;rw[h];simp
   .right;simpa using h
  rw[c,f]at this;simp only[Bool.false_or,Bool.not_true,eD]at this;exact this
theorem Am{Z:Array Oper}(R:mH Z):∀(i:Nat) (p:Nat),((Region.before Z).getD i 0).testBit p=true->p<i:=by
 intro i;induction i using Nat.strongRecOn with
 |ind i c=>
  intro p hp;rcases aZ i Z.size with hi|hi
  .have a:Z[i]? =some Z[i]:=bX hi
   obtain⟨e,d,f,g⟩:=zo a hp;have:=R.edge i _ a e d f;rcases g with rfl|⟨h1,h⟩
   .exact this
   .have:=c _ h1 p h;omega
  .rw[Oe hi]at hp;simp at hp
end
end
end Go.Ev
