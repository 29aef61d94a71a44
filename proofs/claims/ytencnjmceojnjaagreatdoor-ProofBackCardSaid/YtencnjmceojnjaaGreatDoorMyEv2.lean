/- A part of the proof that ProofBack returns true. -/
import Derived.Test.YtencnjmceojnjaaGreatDoorMyEv1
import Derived.Conc.Own
import Derived.Conc.Listed
import GoSem.ClaimLeaving
set_option linter.all false
namespace Go.Ev
set_option maxRecDepth 100000
section
variable{a:AV}{b id len n off:Nat}{e:TypeId}{l:List AV}
section
variable{P:Program}{K:Ctx}{ι:Nm}{h:AH}{w:World}{E:Env}
theorem EF(s:List UInt8):dS ι (bytesOf s) ((⟨s.toArray⟩:ByteArray).data.map λb=>Value.int .u8 b.toNat).toList:=by
 unfold bytesOf;rw[Array.toList_map];exact dS.map λx _=>jU
theorem bytesOf_length(s:List UInt8):(bytesOf s).length=s.length:=by unfold bytesOf;simp
theorem Ov{r:List AV}(e:takeN l off n=some r):r.length=n:=(wP e).2
theorem Ae{r:List AV}(e:jA E h id off n=some r):r.length=n:=by
 unfold jA at e;cases a:Nat.ble OLD id with
 |true=>rw[a,bG]at e;exact(Dn _ _ e).1
 |false=>
  rw[a,bH]at e;split at e
  .exact Ov e
  .cases e
theorem ab5(i:Of K P E)(S:Sat K ι h w){size n:Nat}{x:AV}{c:List AV}{g:Value}(e:Me E h size x=some (n,c))(b:RV ι x g):
 ak P (Builtin.lenOf g) w n w []∧c.length=n*size∧
 ∀d,∃(cs:Array Value) (es:List Event),ak P (Builtin.firstCells size n g) { w with drawn:=d } cs { w with drawn:=d } es∧dS ι c cs.toList∧∀e∈es,zM K w.heap.size e:=by
 unfold Me at e;split at e
 .cases e
  unfold RV at b;subst b;exact⟨ak.pure _,by simp,λd=>⟨#[],[],ak.pure _,dG,by simp⟩⟩
 .cases e
  unfold RV at b;obtain⟨a,c,rfl⟩:=b;refine⟨ak.pure _,by simp,λd=>⟨#[],[],?_,dG,by simp⟩⟩;cases a with
  |none=>exact ak.pure _
  |some a=>
   show ak P (loadCellsFrom a 0 (0*size) #[]) _ _ _ _;rw[jl];exact ak.pure _
 .rename_i id off len cp
  cases f:jA E h id off (len*size)with
  |none=>rw[f]at e;cases e
  |some r=>
   rw[f]at e;cases e;obtain⟨p,hp,cap,rfl,_⟩:=kE b;refine⟨ak.pure _,Ae f,λd=>?_⟩;obtain⟨vs,es,h1,j,m,k⟩:=nN (P:=P) (S.drawn d) i hp f;exact⟨vs,es,h1,j,k⟩
 .rename_i s
  obtain⟨h1,e⟩:=fJ e;cases e;obtain rfl:=nG b;have l:size=1:=au h1;refine⟨?_,by rw[bytesOf_length,l];simp,λd=>⟨_,[],ak.pure _,?_,by simp⟩⟩
  .have:(⟨s.toArray⟩:ByteArray).size=s.length:=size_mk s
   show ak P (Pure.pure (⟨s.toArray⟩:ByteArray).size) w _ w [];rw[this];exact ak.pure _
  .have:(⟨s.toArray⟩:ByteArray).extract 0 s.length=⟨s.toArray⟩:=by rw[extract_mk];simp
   rw[this];exact EF s
 .cases e
theorem NQ(a:Nat):∀(k c:Nat),Builtin.growBy a k c<=2 ^ k*(c+768)
 |0,c=>by simp[Builtin.growBy]
 |k+1,c=>by
  rw[Builtin.growBy];split
  .have:1<=2 ^ (k+1):=Nat.one_le_two_pow
   calc c<=1*(c+768):=by omega
    _<=_:=Nat.mul_le_mul_right _ this
  .have h1:=NQ a k (c+(c+768) / 4)
   have b:2 ^ (k+1)*(c+768)=2 ^ k*(2*(c+768)):=by rw[Nat.pow_succ,Nat.mul_assoc]
   rw[b];refine aS h1 (Nat.mul_le_mul_left _ ?_);omega
theorem KA{need cap:Nat}(h1:need<=1073741824)(a:cap<=1073741824):Builtin.nextslicecap need cap<=17179881472:=by
 unfold Builtin.nextslicecap;split
 .omega
 .split
  .omega
  .refine aS (NQ need 4 cap) ?_
   have:2 ^ 4*(cap+768)=16*(cap+768):=by rw[show(2:Nat) ^ 4=16 from rfl]
   rw[this];omega
theorem JR(z:Array Value)(n:Nat):(Builtin.zeroCells z n).size=n*z.size:=by unfold Builtin.zeroCells;simp
theorem fV.room{f:Unit->Sem Value}{h':AH}(c:fV P K ι h w (f ()) a h'):fV P K ι h w (askRoom b>>=f) a h':=by
 unfold askRoom;by_cases d:b>roomBytes
 .rw[aC d]
  exact fV.lC (ak.mark _) (by intro e g;simp at g;subst g;trivial) c
 .rw[ah d]
  exact fV.aG (ak.pure _) c
theorem Gj(F:Fits P E)(v:K.P=P)(S:Sat K ι h w){d:TI}(s:E.tt.get e=some d){old new:Array Value}{j l:List AV}{c:Nat}(t:dS ι j old.toList)(u:dS ι l new.toList)
 (m:j.length=len*d.size)(p:l.length=n*d.size)(x:len+n<=c):
 fV P K ι h w (do
  let g:=Builtin.zeroCells (← zeroValue e).cells (c - (len+n))
  Pure.pure (.slice (some (← newRow e (old++new++g))) (len+n) c)) (.sl h.nx 0 (len+n) none) (h.new (.cells (j++l) e true false)):=by
 obtain⟨z,y,_,A,q,B⟩:=nT (w:=w) (ι:=ι) F s;refine fV.aG y ?_;have r:P.cellsOf e=d.size:=by
  obtain⟨i,_,hi,C,_⟩:=(lI F s).info;unfold Program.cellsOf;rw[hi];exact C
 have l1:=t.length;have l2:=u.length;have f:(old++new++Builtin.zeroCells z.cells (c - (len+n))).size=c*d.size:=by
  simp only[Array.size_append,JR,q];have D:old.size=len*d.size:=by rw[← m,l1];simp
  have G:new.size=n*d.size:=by rw[← p,l2];simp
  rw[D,G,← nX,← nX];congr 1;omega
 refine xU S (cap:=c) (o:= .cells (j++l) e true false) ?_ (λb=> .slice (some ⟨b,0,none⟩) (len+n) c) (λb w=>by
  show ak P (Pure.pure (⟨b,0,none⟩:Addr)>>=λa=>Pure.pure (Value.slice (some a) (len+n) c)) w _ w [];exact ak.aG (ak.pure _) (ak.pure _)) (λι' b H _=>?_)
 .refine⟨_,0,0,rfl,⟨old.toList++new.toList,(Builtin.zeroCells z.cells (c - (len+n))).toList,by simp,t.append u⟩,λh=>(by cases h),λ_=>?_,λ_=>⟨λo _=>by omega,λ_=>⟨rfl,rfl⟩⟩⟩
  rw[f,v,r]
 .unfold RV
  exact⟨_,H,c,rfl,x,λk I=>(by cases I),λ_ _=>aj _⟩
theorem Sat.aea(S:Sat K ι h w)(ob:Obj)(f:¬K.fz b)(g:∀j x q,h.tr.get j=some x->x.live->ι j=some q->q.1≠b):Sat K ι h { w with heap:=w.heap.setIfInBounds b ob }:=by
 refine⟨λi o hi d=>?_,S.inj,by simpa using S.lo,by simpa using S.bs,λc e=>?_,S.os,S.tape,S.output,S.kV⟩
 .obtain⟨p,a,h1,k,l,m,n⟩:=S.objs i o hi d
  refine⟨p,a,h1,k,l,?_,n⟩;simp only;rw[bW (Ne.symm (g i o p hi d h1))];exact m
 .simp only
  rw[bW (by intro r;exact f (r▸e))];exact S.old c e
theorem MV{as:List AV}{vs:List Value}{c:Array Value}{l:List AV}{k:Nat}(h:dS ι as vs)(b:∃l1 l2,c.toList=l1++l2∧dS ι l l1)(p:k<=l.length)(d:k+vs.length<=c.size):
 ∃l1 l2,(wr c k vs).toList=l1++l2∧dS ι (l.take k++as) l1:=by
 induction as generalizing vs c l k with
 |nil=>
  rw[bU h];obtain⟨l1,l2,e1,e2⟩:=b;have:=e2.length;refine⟨l1.take k,l1.drop k++l2,?_,by simpa using e2.take k⟩;show c.toList=_;rw[e1,← fC,mg]
 |cons a as i=>
  obtain⟨v,r,rfl,j,g2⟩:=bf h;obtain⟨l1,l2,e1,e2⟩:=b;have f:=e2.length;simp only[fB]at d;obtain⟨m,m2,n,g⟩:=i (vs:=r) (c:=c.setIfInBounds k v) (l:=l.take k++[a]) (k:=k+1) g2 (by
   have o:c.size=l1.length+l2.length:=by have:=gu List.length e1;simpa using this
   refine⟨l1.take k++[v],(l1.drop k++l2).drop 1,?_,(e2.take k).append (cO j dG)⟩;rw[Array.toList_setIfInBounds,e1];have e:k<(l1++l2).length:=by simp;omega
   rw[List.set_eq_take_append_cons_drop,aC e];have t1:(l1++l2).take k=l1.take k:=by rw[List.take_append_of_le_length (by omega)]
   have t2:(l1++l2).drop (k+1)=(l1.drop k++l2).drop 1:=by
    rw[← List.drop_append_of_le_length (by omega),List.drop_drop]
   rw[t1,t2];simp) (by simp;omega) (by simp;omega)
  refine⟨m,m2,n,?_⟩;have:(l.take k++[a]).take (k+1)++as=l.take k++a::as:=by
   have b:(l.take k++[a]).length=k+1:=by simp;omega
   rw[eP (by omega)];simp
  rw[this]at g;exact g
end
end
section
variable{a v x:AV}{n:Nat}{tx ty:TypeId}{vx:Value}
section
variable{P:Program}{K:Ctx}{Z:Nm}{h:AH}{w:World}{E:Env}
theorem fV.still(S:Sat K Z h w){s:Sem Value}{v:Value}(h1:ak P s w v w [])(b:RV Z a v):fV P K Z h w s a h:=λ_=>
 ⟨Z,w,v,[],h1,Grow.refl _ _,S,b,kP.refl K w (by simp),rfl⟩
def aeQ:TypeDesc->Bool| .int _=>true|_=>false
theorem VO(F:Fits P E)(hP:Of K P E)(S:Sat K Z h w){ts:TypeId}{s:AV}{h':AH}{vs:Value}(e:l7 E h ts tx s x=some (v,h'))(hs:RV Z s vs)(hx:RV Z x vx):
 fV P K Z h w (Builtin.append_ #[ts,tx] ty #[vs,vx]) v h':=by
 unfold l7 at e;split at e
 .rename_i el tsz tby tzr xi hts htx
  have hd:E.d ts=some (.slice el):=by unfold Env.d;rw[hts];rfl
  split at e
  .cases e
  .rename_i r he
   obtain⟨y,e⟩:=dO e;split at e
   .cases e
   .rename_i n c hsrc
    obtain⟨B,e⟩:=dO e;obtain⟨hlen,hcl,u⟩:=ab5 (P:=P) hP S hsrc hx;obtain⟨dx,hdx,hmx⟩:=(lI F htx).desc;have hni':aeQ dx=false:=by
     cases dx<;>try rfl
     rename_i k;cases G:xi.d<;>rw[G]at hmx y<;>first
      |exact hmx.elim
      |(simp at y;done)
      |exact aX y (by decide)
    have hby:r.bytes<=4096:=by
     cases G:xi.d<;>rw[G]at y<;>simp only[Bool.or_eq_false_iff]at y<;>first
      |(cases y;done)
      |(rcases aT 4096 r.bytes with h1|h1
        .rw[← dB,y.2]at h1;cases h1
        .exact h1)
    have hby0:r.bytes≠0:=by
     cases G:xi.d<;>rw[G]at y<;>simp only[Bool.or_eq_false_iff]at y<;>first
      |(cases y;done)
      |(intro h0;have:=y.1.1;rw[h0]at this;cases this)
    obtain⟨ii,z,U,his,hib,hiz,_,_,hzs,hzl⟩:=(lI F he).info;have pre:∀(h0:AH) (base:Option Addr) (g l:Nat) (a:AV) (h1:AH),
     fV P K Z h0 w (if g+n<=l then do
      let new ← Builtin.firstCells r.size n vx
      match base with
       |some a=>do
        storeCells (a.add (g*r.size)) new.toList
        Pure.pure (Value.slice base (g+n) l)
       |_=>Pure.pure (Value.slice base (g+n) l)
      else do
       let newCap ← choose (.appendCap (g+n) l el)
       askRoom (newCap*ii.bytes)
       let old ← Builtin.firstCells r.size g (.slice base g l);let new ← Builtin.firstCells r.size n vx;let z ← zeroValue el;let b ← newRow el (old++new++Builtin.zeroCells z.cells (newCap - (g+n)))
       Pure.pure (.slice (some b) (g+n) newCap)) a h1->
     (¬(g+n<=l)->Builtin.nextslicecap (g+n) l*r.bytes<=281474976710656)->fV P K Z h0 w (Builtin.append_ #[ts,tx] ty #[.slice base g l,vx]) a h1:=by
     intro h0 base g l a h1 D V;unfold Builtin.append_;refine fV.aG (ak.underlying (eu F hd)) ?_;refine fV.aG (dW (lI F he)) ?_;have i1:(#[ts,tx]:Array TypeId)[1]? =some tx:=rfl;have i2:(#[Value.slice base g l,vx]:Array Value)[1]=vx:=rfl;have i3:(#[Value.slice base g l,vx]:Array Value)[0]= .slice base g l:=rfl;simp only[i1,i2,i3];refine fV.aG (ak.underlying hdx) ?_;refine fV.aG (x:=false) ?_ ?_
     .cases dx<;>first
       |exact ak.pure _
       |(cases hni';done)
     simp only[gJ,if_false,Bool.not_false,if_true];refine fV.aG hlen ?_;by_cases L:g+n<=l
     .simp only[L,if_true]at D ⊢
      exact D
     .have V:=V L
      simp only[L,if_false]at D ⊢;refine fV.aG (ak.typeInfo U) ?_;have hne:¬(((g+n:Nat):Int)>IntKind.i64.max∧(False∨ii.bytes=0)):=by
       rintro⟨_,h|h⟩
       .exact h
       .rw[hib]at h;exact hby0 h
      simp only[hne,if_false];refine fV.aG (ak.typeInfo U) ?_;have A:¬(Builtin.nextslicecap (g+n) l*ii.bytes>2 ^ 48):=by
       rw[hib];omega
      simp only[A,if_false];obtain⟨k,w',hch,⟨d,rfl⟩,G⟩:=ak.choose (P:=P) (w:=w) (.appendCap (g+n) l el);intro hfr;obtain⟨ι',w',nv,es,h3,h4⟩:=D hfr;refine⟨ι',w',nv,es,?_,h4⟩;intro e0;have h5:=h3 e0;rw[runT_bind,hch e0]at h5 ⊢;simp only at h5 ⊢;rw[runT_bind,ak.typeInfo U];simp only at h5 ⊢;simpa using h5
    have room:∀(g l:Nat),n<=268435456->g<=268435456->l<=1073741824->Builtin.nextslicecap (g+n) l*r.bytes<=281474976710656:=λg l b0 b1 b2=>by
     have h1:=KA (need:=g+n) (cap:=l) (by omega) (by omega);have h2:=Nat.mul_le_mul h1 hby;omega
    have grow:∀(base:Option Addr) (g l:Nat) (co:List AV) (h0:AH) (S0:Sat K Z h0 w),¬(g+n<=l)->Builtin.nextslicecap (g+n) l*r.bytes<=281474976710656->co.length=g*r.size->
     (∀d,∃(cs:Array Value) (es:List Event),ak P (Builtin.firstCells r.size g (.slice base g l)) { w with drawn:=d } cs { w with drawn:=d } es∧dS Z co cs.toList∧∀e∈es,zM K w.heap.size e)->
     fV P K Z h0 w (Builtin.append_ #[ts,tx] ty #[.slice base g l,vx]) (.sl h0.nx 0 (g+n) none) (h0.new (.cells (co++c) el true false)):=by
     intro base g l co h0 S0 hgt hrm hco hold;refine pre _ _ _ _ _ _ ?_ (λ_=>hrm);rw[ah hgt];refine fV.choose λk d G=>?_;refine fV.room ?_;obtain⟨cs,es,r1,r2,r3⟩:=hold d;refine fV.lC r1 r3 ?_;obtain⟨H,es2,q1,X,q3⟩:=u d;refine fV.lC q1 q3 ?_;refine Gj F hP.P (S0.drawn d) he r2 X hco hcl ?_;obtain⟨t,G|G⟩:=G
     .rw[G];simp only[Question.cut];omega
     .exact aX G.2 (by simp[Question.forced])
    split at e
    .
     unfold RV at hs;subst hs;cases M:Nat.beq n 0 with
     |true=>
      rw[M]at e;simp only[bG,dh,qV]at e;obtain⟨rfl,rfl⟩:=e;obtain rfl:n=0:=au M;refine pre _ _ _ _ _ _ ?_ (λY=>aX (aj _) Y);rw[aC (aj _)];obtain⟨H,es2,q1,X,q3⟩:=u w.drawn;refine fV.lC q1 q3 ?_;exact fV.still S (ak.pure _) (by unfold RV;rfl)
     |false=>
      rw[M]at e;simp only[bH,dh,qV]at e;obtain⟨rfl,rfl⟩:=e;have hn1:n≠0:=by intro h0;rw[h0]at M;cases M
      have B:n*r.bytes<=140737488355328:=by
       rcases aT 140737488355328 (n*r.bytes)with h1|h1
       .have B:Nat.blt 140737488355328 (n*r.bytes)=false:=B
        rw[← dB,B]at h1;cases h1
       .exact h1
      have:=grow none 0 0 [] h S (by omega) (by
       have:Builtin.nextslicecap (0+n) 0=0+n:=by unfold Builtin.nextslicecap;rw[aC (by omega)]
       rw[this,fA];omega) (by simp) (λd=>⟨#[],[],ak.pure _,dG,by simp⟩)
      simpa using this
    .
     rename_i id off len cap _ _;have hn2:n<=268435456:=by
      rcases aT 268435456 n with h1|h1
      .have B:Nat.blt 268435456 n=false:=B
       rw[← dB,B]at h1;cases h1
      .exact h1
     obtain⟨p,hp,m,rfl,L,hcap,_⟩:=kE hs;obtain rfl:=hcap cap rfl;cases V:Nat.ble (len+n) m with
     |true=>
      rw[V]at e;simp only[bG]at e;have N:=aJ V;cases hst:fE h id (off+len*r.size) c with
      |none=>rw[hst]at e;cases e
      |some h1=>
       rw[hst]at e;cases e;refine pre _ _ _ _ _ _ ?_ (λY=>aX N Y);rw[aC N];obtain⟨H,es2,q1,X,q3⟩:=u w.drawn;refine fV.lC q1 q3 ?_;simp only[oM];refine yE.val (wF S hp hst X) (λι' hE=>?_) (λw=>ak.pure _);unfold RV;exact⟨p,hE _ _ hp,m,rfl,N,λk G=>by cases G;rfl,λhn=>by cases hn⟩
     |false=>
      rw[V]at e;simp only[bH]at e;have hgt:¬(len+n<=m):=λY=>by rw[← Nat.ble_eq,V]at Y;cases Y
      obtain⟨C,e⟩:=dO e;have C:len+m<=268435456:=by
       rcases aT 268435456 (len+m)with h1|h1
       .rw[← dB,C]at h1;cases h1
       .exact h1
      cases O:jA E h id off (len*r.size)with
      |none=>rw[O]at e;cases e
      |some old=>
       rw[O]at e;cases e;exact grow (some ⟨p.1,off,none⟩) len m old h S hgt (room _ _ hn2 (by omega) (by omega)) (Ae O) (λd=>by
        obtain⟨vs,es,h1,h2,h3,h4⟩:=nN (P:=P) (S.drawn d) hP hp O;exact⟨vs,es,h1,h2,h4⟩)
    .
     rename_i id len _ _;have hn2:n<=268435456:=by
      rcases aT 268435456 n with h1|h1
      .have B:Nat.blt 268435456 n=false:=B
       rw[← dB,B]at h1;cases h1
      .exact h1
     obtain⟨C,e⟩:=dO e;have C:len<=268435456:=by
      rcases aT 268435456 len with h1|h1
      .rw[← dB,C]at h1;cases h1
      .exact h1
     obtain⟨p,hp,m,rfl,L,_,A⟩:=kE hs;have A:=A rfl rfl;split at e
     .rename_i Q J ho
      obtain⟨hc,e⟩:=fJ e;cases e;simp only[aF]at hc;obtain⟨⟨⟨hel,hlv⟩,hscal⟩,_⟩:=hc;obtain rfl:J=el:=au hel;have hlv:=aJ hlv;obtain⟨q,ob,hq,b1,b2,b3,V,cc,lo,hi,rfl,⟨l1,l2,hcc,hlr⟩,_,hgs,hfz⟩:=S.at ho trivial;obtain rfl:p=q:=by rw[hp]at hq;exact aN hq
      have hsz:P.cellsOf J=r.size:=by unfold Program.cellsOf;rw[U];exact his
      have hcsz:cc.size=p.2*r.size:=by rw[hgs rfl,hP.P,hsz]
      have R:∀j x q,(h.put id .dead).tr.get j=some x->x.live->Z j=some q->q.1≠p.1:=by
       intro j x q hj O W hqp;rcases AH.qW hj with⟨_,rfl⟩|⟨hne,hj'⟩
       .exact O.elim
       .exact hne (S.inj j id x _ q p hj' (AH.uO ho trivial) O trivial W hp hqp)
      by_cases I:len+n<=m
      .refine pre _ _ _ _ _ _ ?_ (λY=>aX I Y)
       rw[aC I];obtain⟨H,es2,q1,X,q3⟩:=u w.drawn;refine fV.lC q1 q3 ?_;simp only[oM,fA];intro hfr;have hfn:Z h.nx=none:=hfr _ (aj _) (by rw[AH.mZ,AH.sD];omega);have hq2:=X.length;have hmul:(len+n)*r.size<=cc.size:=by rw[hcsz];exact Nat.mul_le_mul_right _ (by omega)
       rw[nX]at hmul;have hlen2:len*r.size+H.toList.length<=cc.size:=by rw[← hq2,hcl];exact hmul
       obtain⟨es3,g1,g2⟩:=vK (P:=P) (ι:=Z) (b:=p.1) (off:=len*r.size) (T:=J) (lo:=lo) (hi:=hi) c H.toList 0 w cc X hscal V (by omega) (hfz rfl).1;obtain⟨m1,m2,k1,k2⟩:=MV (c:=cc) (k:=len*r.size) X ⟨l1,l2,hcc,hlr⟩ hlv hlen2;have hE:Ext Z (upd Z h.nx p):=Am hfn;refine⟨upd Z h.nx p,_,.slice (some ⟨p.1,0,none⟩) (len+n) m,es3,by
        have:=ak.bind (f:=λ_=>(Pure.pure (Value.slice (some ⟨p.1,0,none⟩) (len+n) m):Sem Value)) g1 (ak.pure _);rw[dD]at this;exact this,?_,?_,?_,kP.Rf _ b1 b2 ?_,by rw[AH.yM,AH.wV]⟩
       .rw[AH.mZ,AH.sD];exact Grow.upd
       .have S1:=(((S.forget id).aea (.cells (wr cc (len*r.size+0) H.toList) J (lo,hi)) b1 R).mono hE)
        refine(S1.place (i:=h.nx) (p:=p) (ob:= .cells (wr cc (len*r.size+0) H.toList) J (lo,hi)) (o:= .cells (Q.take (len*r.size)++c) J true false) (pI _ _ _) (by simp[b3]) b1 b2 (λj x q hj O W hqp=>?_) ?_).afX ?_
        .by_cases hji:j=h.nx
         .exact hji
         .rw[upd_ne hji]at W
          exact aX hqp (R j x q hj O W)
        .refine⟨_,lo,hi,rfl,⟨m1,m2,k1,k2.mono hE⟩,λh=>(by cases h),λ_=>?_,λ_=>⟨λo hlt=>?_,λh=>by cases h⟩⟩
         .rw[EM];exact hgs rfl
         .rw[EM]at hlt;exact(hfz rfl).1 o hlt
        .rw[AH.Vm,AH.sD]
       .unfold RV
        exact⟨p,pI _ _ _,m,rfl,I,λk G=>(by cases G),λ_ _=>A⟩
       .intro e' he'
        obtain⟨o,rfl⟩:=g2 e' he';exact⟨.inl ⟨b1,b2⟩,b3⟩
      .have:=grow (some ⟨p.1,0,none⟩) len m (Q.take (len*r.size)) (h.put id .dead) (S.forget id) I (room _ _ hn2 C (by omega)) (by simp;omega) (λd=>by
        have O:takeN Q 0 (len*r.size)=some (Q.take (len*r.size)):=by
         simp only[takeN,gB];rw[show Nat.beq (Q.take (len*r.size)).length (len*r.size)=true by rw[Fj];simp;omega];rfl
        obtain⟨vs,es,h1,h2,h3,h4⟩:=Jm (P:=P) (S.drawn d) hp ho O;exact⟨vs,es,h1,h2,h4⟩)
       rw[AH.sD]at this;exact this
     .cases e
    .cases e
 .cases e
theorem yA{a:Option Addr}{c:Nat}:ak P (Builtin.lenOf (.slice a n c)) w n w []:=ak.pure _
theorem aa7(F:Fits P E)(n:Of K P E)(S:Sat K Z h w){td tx ty:TypeId}{d s v:AV}{h':AH}{l vs:Value}(e:IW E h td d s=some (v,h'))(f:RV Z d l)(g:RV Z s vs):
 fV P K Z h w (Builtin.copy_ #[td,tx] ty #[l,vs]) v h':=by
 unfold IW at e;split at e
 .rename_i el o q r j
  have b:E.d td=some (.slice el):=by unfold Env.d;rw[j];rfl
  split at e
  .cases e
  .rename_i t i
   split at e
   .rename_i id off len cp id' off' len' cp'
    simp only at e;split at e
    .rename_i c u
     cases a:fE h id off c with
     |none=>rw[a]at e;cases e
     |some h1=>
      rw[a]at e;cases e;obtain⟨p,hp,cap,rfl,_⟩:=kE f;obtain⟨A,k,m,rfl,_⟩:=kE g;obtain⟨cs,es,r1,r2,_,y⟩:=nN (P:=P) S n k u;unfold Builtin.copy_;refine fV.aG (ak.underlying (eu F b)) ?_;refine fV.aG yA ?_;refine fV.aG (dW (lI F i)) ?_;refine fV.lC (x:=cs) r1 y ?_;exact yE.val (wF S hp a r2) (λι' z=>jU) (λw=>ak.pure _)
    .cases e
   .rename_i id off len cp s'
    dsimp only at e;cases a:fE h id off (bytesOf (s'.take (Nat.min s'.length len)))with
    |none=>rw[a]at e;cases e
    |some h1=>
     rw[a]at e;cases e;obtain⟨p,hp,cap,rfl,_⟩:=kE f;obtain rfl:=nG g;unfold Builtin.copy_;refine fV.aG (ak.underlying (eu F b)) ?_;refine fV.aG (x:=s'.length) (by
      have:(⟨s'.toArray⟩:ByteArray).size=s'.length:=size_mk s';show ak P (Pure.pure (⟨s'.toArray⟩:ByteArray).size) w _ w [];rw[this];exact ak.pure _) ?_
     refine fV.aG (dW (lI F i)) ?_;refine fV.aG (ak.pure _) ?_;refine yE.val (wF S hp a ?_) (λι' z=>jU) (λw=>ak.pure _);have:=EF (ι:=Z) (s'.take (Nat.min s'.length len));have e2:(⟨s'.toArray⟩:ByteArray).extract 0 (Nat.min s'.length len)=⟨(s'.take (Nat.min s'.length len)).toArray⟩:=by rw[extract_mk];simp
     rw[e2];exact this
   .rename_i id off len cp
    cases e;obtain⟨p,hp,cap,rfl,_⟩:=kE f;unfold RV at g;subst g;unfold Builtin.copy_;refine fV.aG (ak.underlying (eu F b)) ?_;refine fV.aG yA ?_;refine fV.aG (dW (lI F i)) ?_;refine fV.aG (x:=#[]) (ak.pure _) ?_;have h0:Nat.min 0 len=0:=Nat.zero_min _;refine fV.aG (x:=()) (ak.pure _) ?_;rw[h0];exact fV.still S (ak.pure _) jU
   .cases e
    unfold RV at f g;subst g;subst f;unfold Builtin.copy_;refine fV.aG (ak.underlying (eu F b)) ?_;refine fV.aG yA ?_;refine fV.aG (dW (lI F i)) ?_;refine fV.aG (x:=#[]) (ak.pure _) ?_;exact fV.still S (ak.pure _) jU
   .rename_i id off len cp
    cases e;obtain⟨p,hp,cap,rfl,_⟩:=kE g;unfold RV at f;subst f;unfold Builtin.copy_;refine fV.aG (ak.underlying (eu F b)) ?_;refine fV.aG yA ?_;refine fV.aG (dW (lI F i)) ?_;have h0:Nat.min len 0=0:=Nat.min_zero _;refine fV.aG (x:=#[]) ?_ ?_
    .rw[h0]
     show ak P (loadCellsFrom _ 0 (0*t.size) #[]) _ _ _ _;rw[jl];exact ak.pure _
    rw[h0];exact fV.still S (ak.pure _) jU
   .cases e
 .cases e
end
end
section
variable{α:Type}{T e el t:TypeId}{a x:AV}{b id n off:Nat}{c:Array Value}{fz p:Nat×Nat}{l:List AV}{r:OR}{ti:TI}{vx:Value}
section
variable{P:Program}{K:Ctx}{ι:Nm}{h:AH}{w:World}{E:Env}
theorem J4(a:w.heap[b]? =some (.cells c T fz)):w.shape? b=some (T,c.size):=by
 unfold World.shape?;simp[a]
theorem Cm{o:Nat}(d:w.heap[b]? =some (.cells c T fz)):ak P (Conv.seenAt ⟨b,o,none⟩) w ⟨b,o,none⟩ w []:=by
 unfold Conv.seenAt;refine ak.aG (a:=none) ?_ (ak.pure _);unfold viewAt;refine ak.aG (ak.shape _) ?_;rw[J4 d];exact ak.pure _
theorem Gs(a:w.heap[b]? =some (.cells c T fz)):ak P (cellsIn b) w (some c.size) w []:=by
 unfold cellsIn;refine ak.aG (ak.shape _) ?_;rw[J4 a];exact ak.pure _
theorem zH{o:Nat}{u:TypeId}(a:w.heap[b]? =some (.cells c T fz)):ak P (variablesAt ⟨b,o,none⟩ u n) w (liesAt P P.depth T (c.size / P.cellsOf T) o u n) w []:=by
 unfold variablesAt;refine ak.aG ak.program ?_;refine ak.aG (ak.shape _) ?_;rw[J4 a];exact ak.pure _
theorem Nc{s:List UInt8}(e:strOf (a::l)=some s):∃(n:Int) (r:List UInt8),a= .int .u8 n∧strOf l=some r∧s=UInt8.ofNat n.toNat::r:=by
 unfold strOf at e;split at e
 .rename_i b;cases b
 .rename_i n c b
  cases b;split at e
  .rename_i r hr
   cases e;exact⟨n,r,rfl,hr,rfl⟩
  .cases e
 .cases e
theorem NW{body:Value->ByteArray->Sem (ForInStep ByteArray)}(c:∀(n:Int) acc,body (.int .u8 n) acc=Pure.pure (ForInStep.yield (acc.push (UInt8.ofNat n.toNat)))):
 ∀{l:List AV} {s:List UInt8} {vs:List Value} {acc:ByteArray},strOf l=some s->dS ι l vs->ak P (forIn vs acc body) w ⟨acc.data++s.toArray⟩ w []
 |[],s,vs,acc,e,b=>by
  rw[bU b];unfold strOf at e;cases e;simp only[List.forIn_nil];have:(⟨acc.data++#[]⟩:ByteArray)=acc:=by simp
  rw[this];exact ak.pure _
 |a::l,s,vs,acc,e,b=>by
  obtain⟨n,r,rfl,hr,rfl⟩:=Nc e;obtain⟨v,d,rfl,h1,f⟩:=bf b;obtain rfl:=iK h1;rw[List.forIn_cons,c];refine ak.aG (ak.pure _) ?_;have:=NW c (acc:=acc.push (UInt8.ofNat n.toNat)) hr f;have e2:(⟨(acc.push (UInt8.ofNat n.toNat)).data++r.toArray⟩:ByteArray)=⟨acc.data++(UInt8.ofNat n.toNat::r).toArray⟩:=by
   congr 1;apply dH.1;simp[ByteArray.push]
  rw[e2]at this;exact this
theorem Ip(a:Of K P E)(S:Sat K ι h w){id off len:Nat}{b:Option Nat}{vs:List AV}{s:List UInt8}{v:Value}(d:jA E h id off len=some vs)(e:strOf vs=some s)(f:RV ι (.sl id off len b) v):
 fV P K ι h w (Conv.bytesToString v) (.str s) h:=by
 obtain⟨p,hp,cap,rfl,_⟩:=kE f;obtain⟨cs,es,r1,r2,_,g⟩:=nN (P:=P) S a hp d;unfold Conv.bytesToString;refine fV.lC r1 g ?_;refine fV.aG (x:=(⟨s.toArray⟩:ByteArray)) ?_ (fV.still S (ak.pure _) LU);obtain⟨l⟩:=cs;rw[List.forIn_toArray];have := NW (P := P) (w := w) (ι := ι) (acc := ByteArray.empty) (body := λ c s => match c with | .int .u8 n => Pure.pure (ForInStep.yield (s.push (UInt8.ofNat n.toNat))) | _ => stuck "bytesToString: byte expected") (λ n acc => rfl) e r2;have e2:(⟨ByteArray.empty.data++s.toArray⟩:ByteArray)=⟨s.toArray⟩:=by
  show(⟨#[]++s.toArray⟩:ByteArray)=_;simp
 rw[e2]at this;exact this
theorem RN(a:Array α)(x:α)(f:α->α):(a.push x).modify a.size f=a.push (f x):=by
 apply oL;intro i;rw[Array.getElem?_modify,lG,lG];by_cases h:a.size=i
 .subst h;simp
 .rw[ah h]
  by_cases b:i=a.size
  .exact aX b.symm h
  .rw[ah b,ah b]
theorem GX(p:K.P=P)(S:Sat K ι h w)(q:P.cellsOf e=1){a:List UInt8}:
 fV P K ι h w (Conv.stringToBytes e ⟨a.toArray⟩) (.sl h.nx 0 a.length none) (h.new (.cells (bytesOf a) e true false)):=by
 unfold Conv.stringToBytes;have r:(⟨a.toArray⟩:ByteArray).size=a.length:=size_mk a;rw[r];refine fV.choose λk d g=>?_;have l:a.length<=k:=by
  obtain⟨t,g|g⟩:=g
  .rw[g];simp only[Question.cut];omega
  .exact aX g.2 (by simp[Question.forced])
 intro m;have s:=FQ m;have u:=S.drawn d;obtain⟨c,f⟩:∃c,c=a.toArray.map (λb=>Value.int .u8 b.toNat)++Array.replicate (k - a.length) (.int .u8 0):=⟨_,rfl⟩;have i:c.size=k:=by rw[f];simp;omega
 have hr:RO K.P (upd ι h.nx (w.heap.size,k)) k (.cells (bytesOf a) e true false) (.cells c e (k,k+1)):=by
  refine⟨c,k,k+1,rfl,⟨_,(Array.replicate (k - a.length) (Value.int .u8 0)).toList,?_,(EF a)⟩,λh=>(by cases h),λ_=>?_,λ_=>⟨λo x=>by omega,λh=>by cases h⟩⟩
  .rw[f];simp
  .rw[i,p,q];omega
 refine⟨upd ι h.nx (w.heap.size,k),{ w with heap:=w.heap.push (.cells c e (k,k+1)),drawn:=d },.slice (some ⟨w.heap.size,0,none⟩) a.length k,[],?_,by rw[AH.mZ];exact Grow.upd,u.Fh s hr,?_,by simpa using kP.Fh (w:={ w with drawn:=d }) (.cells c e (k,k+1)) K,AH.yM⟩
 .dsimp only
  rw[← f];unfold newRow;refine ak.bind (e1:=[]) (e2:=[]) (ak.bind (e1:=[]) (e2:=[]) (ak.new _) (ak.pure _)) ?_;refine ak.bind (e1:=[]) (e2:=[]) (a:=()) (w1:={ w with heap:=w.heap.push (.cells c e (k,k+1)),drawn:=d }) ?_ (ak.pure _);unfold markStringish;refine ak.bind (e1:=[]) (e2:=[]) (ak.shape _) ?_;have n:World.shape? { w with heap:=w.heap.push (.cells c e (0,0)),drawn:=d } w.heap.size=some (e,c.size):=by unfold World.shape?;simp
  simp only[n];have:=ak.freeze (P:=P) (w:={ w with heap:=w.heap.push (.cells c e (0,0)),drawn:=d }) ⟨w.heap.size,c.size,none⟩ 1;have v:World.freeze { w with heap:=w.heap.push (.cells c e (0,0)),drawn:=d } ⟨w.heap.size,c.size,none⟩ 1={ w with heap:=w.heap.push (.cells c e (k,k+1)),drawn:=d }:=by
   unfold World.freeze;rw[ah (by decide)];simp only;congr 1;rw[RN];simp[i]
  rw[v]at this;exact this
 .unfold RV
  exact⟨_,pI _ _ _,k,rfl,l,λj hj=>(by cases hj),λ_ _=>aj _⟩
theorem ED(F:Fits P E)(a:E.tt.get t=some ti):P.cellsOf t=ti.size:=by
 obtain⟨i,_,hi,b,_⟩:=(lI F a).info;unfold Program.cellsOf;rw[hi];exact b
theorem abd(F:Fits P E)(R:Of K P E)(S:Sat K ι h w){s d:TypeId}(e:IY E s d x h=some r)(m:RV ι x vx):∃v h',r= .val v h'∧fV P K ι h w (convert s d vx) v h':=by
 unfold IY at e;split at e
 .rename_i el id off i j
  split at e
  .rename_i vs el2 g z ti I J
   obtain⟨n,rfl⟩:=fJ e;refine⟨_,_,rfl,?_⟩;rw[aF]at n;obtain⟨o,L⟩:=n;rw[dB]at L;obtain⟨p,hp,rfl⟩:=jF m;obtain⟨q,ob,A,U,V,W,B,c,lo,hi,rfl,⟨l1,l2,C,D⟩,_⟩:=S.at I trivial;obtain rfl:p=q:=by rw[hp]at A;exact aN A
   have G:off<c.size:=by
    have h1:=gu List.length C;have T:=D.length;simp at h1;omega
   refine fV.still S ?_ (xO hp);unfold convert;refine ak.aG (ak.underlying (uU F i)) ?_;refine ak.aG (ak.underlying (wK F j)) ?_;unfold Conv.unsafePointer;refine ak.aG (ak.underlying (uU F i)) ?_;refine ak.aG (ak.underlying (wK F j)) ?_;refine ak.aG (Cm B) ?_;refine ak.aG (Gs B) ?_;refine ak.aG (dW (lI F J)) ?_;have h1:ti.size≠0:=by intro h0;rw[h0]at o;cases o
   simp only[h1,decide_false,Bool.false_or,Option.isNone_none,Bool.and_true];have T:¬(c.size<=off):=by omega
   simp[T];exact ak.pure _
  .cases e
 .rename_i u id i j
  split at e
  .rename_i vs el z ti I J
   split at e
   .rename_i X M
    obtain⟨n,rfl⟩:=fJ e;refine⟨_,_,rfl,?_⟩;simp only[aF]at n;obtain⟨⟨⟨o,l⟩,b⟩,f⟩:=n;have b:=au b;obtain⟨p,hp,rfl⟩:=jF m;obtain⟨q,ob,A,U,V,W,B,c,lo,hi,rfl,⟨l1,l2,C,D⟩,Y,_⟩:=S.at I trivial;obtain rfl:p=q:=by rw[hp]at A;exact aN A
    have N:c.size=vs.length:=Y rfl;have Z:X.size≠0:=by intro h0;rw[h0]at l;cases l
    have k:c.size / P.cellsOf el=1:=by rw[ED F M,N,b];exact Nat.div_self (by omega)
    have O:liesAt P P.depth el (c.size / P.cellsOf el) 0 u 1=true:=by
     rw[k];rw[List.any_eq_true]at f;obtain⟨q,Q,t⟩:=f;rw[aF]at t;obtain⟨q1,q2⟩:=q;have e1:q1=el:=au t.1;have e2:q2=u:=au t.2;subst e1;subst e2;exact F.lies _ _ Q
    refine fV.still S ?_ (xO hp);unfold convert;refine ak.aG (ak.underlying (wK F i)) ?_;refine ak.aG (ak.underlying (uU F j)) ?_;unfold Conv.unsafePointer;refine ak.aG (ak.underlying (wK F i)) ?_;refine ak.aG (ak.underlying (uU F j)) ?_;refine ak.aG (Cm B) ?_;refine ak.aG (dW (lI F J)) ?_;refine ak.aG (zH B) ?_;simp only[O,jX,if_true];exact ak.pure _
   .cases e
  .cases e
 .rename_i e1 i j
  split at e
  .rename_i he1
   cases e;refine⟨_,_,rfl,?_⟩;unfold RV at m;subst m;refine fV.still S ?_ (v:= .string ⟨#[]⟩) (by unfold RV;rfl);unfold convert;refine ak.aG (ak.underlying (eu F i)) ?_;refine ak.aG (ak.underlying (qg F j)) ?_;refine ak.aG (ak.underlying (BR F he1)) ?_;exact ak.pure _
  .cases e
 .rename_i e1 id off len cp i j
  split at e
  .rename_i he1
   split at e
   .rename_i vs O
    cases y:strOf vs with
    |none=>rw[y]at e;cases e
    |some sr=>
     rw[y]at e;cases e;refine⟨_,_,rfl,?_⟩;have:=Ip (P:=P) R S O y m;obtain⟨p,hp,cap,rfl,_⟩:=kE m;unfold convert;refine fV.aG (ak.underlying (eu F i)) ?_;refine fV.aG (ak.underlying (qg F j)) ?_;refine fV.aG (ak.underlying (BR F he1)) ?_;exact this
   .cases e
  .cases e
 .rename_i e1 a i j
  split at e
  .rename_i ti H
   split at e
   .rename_i hk
    obtain⟨n,rfl⟩:=fJ e;refine⟨_,_,rfl,?_⟩;obtain rfl:=nG m;have he1:E.d e1=some (.int .u8):=by unfold Env.d;rw[H];simp[hk]
    have G:P.cellsOf e1=1:=by rw[ED F H];exact au n
    unfold convert;refine fV.aG (ak.underlying (qg F i)) ?_;refine fV.aG (ak.underlying (eu F j)) ?_;refine fV.aG (ak.underlying (BR F he1)) ?_;exact GX R.P S G
   .cases e
  .cases e
 .cases e
theorem Sat.ZT(S:Sat K ι h w)(hp:ι id=some p){vs:List AV}{g z:Bool}(d:h.obj id= .cells vs el g z){a:Nat×Nat}(f:w.heap[p.1]? =some (.cells c el fz)):
 Sat K ι (h.put id (.cells vs el g true)) { w with heap:=w.heap.setIfInBounds p.1 (.cells c el a) }:=by
 obtain⟨q,ob,e,k,l,m,b,n,lo,hi,rfl,h1,i,j,o⟩:=S.at d trivial;obtain rfl:p=q:=by rw[hp]at e;exact aN e
 rw[f]at b;cases b;exact S.Rf hp (AH.uO d trivial) trivial ⟨c,a.1,a.2,rfl,h1,i,j,λh=>by cases h⟩
theorem FB{b:Nat}{c:Array Value}{T:TypeId}{fz:Nat×Nat}(i:w.heap[b]? =some (.cells c T fz)):∀{l:List AV} {s:List UInt8} {off:Nat} {acc:ByteArray},strOf l=some s->(∀j a,l[j]? =some a->∃v,c[off+j]? =some v∧RV ι a v)->
 ∃es,ak P (loadBytes ⟨b,off,none⟩ acc l.length) w ⟨acc.data++s.toArray⟩ w es∧∀e∈es,∃o,e=⟨.cell ⟨b,o,none⟩,false,false⟩
 |[],s,off,acc,e,f=>by
  unfold strOf at e;cases e;refine⟨[],?_,by simp⟩;have:(⟨acc.data++#[]⟩:ByteArray)=acc:=by simp
  rw[this];unfold loadBytes;exact ak.pure _
 |a::l,s,off,acc,e,f=>by
  obtain⟨n,r,rfl,hr,rfl⟩:=Nc e;obtain⟨v,h1,m⟩:=f 0 _ rfl;obtain rfl:=iK m;obtain⟨es,k,p⟩:=FB i (off:=off+1) (acc:=acc.push (UInt8.ofNat n.toNat)) hr (λj a q=>by
   have:=f (j+1) a (by simpa using q);rw[show off+1+j=off+(j+1)by omega];exact this)
  refine⟨[⟨.cell ⟨b,off,none⟩,false,false⟩]++es,?_,?_⟩
  .rw[fB,loadBytes]
   refine ak.bind (ak.load (v:= .int .u8 n) (by rw[cell_of i];simpa using h1)) ?_;rw[oM];have e2:(⟨(acc.push (UInt8.ofNat n.toNat)).data++r.toArray⟩:ByteArray)=⟨acc.data++(UInt8.ofNat n.toNat::r).toArray⟩:=by
    congr 1;apply dH.1;simp[ByteArray.push]
   rw[e2]at k;exact k
  .intro t g
   rcases bQ.1 g with d|d
   .simp at d;subst d;exact⟨off,rfl⟩
   .exact p t d
theorem liesAt_bytes{a:Nat}(i:1<=P.depth)(c:P.cellsOf e=1)(f:off+n<=a):liesAt P P.depth e a off e n=true:=by
 obtain⟨d,b⟩:∃d,P.depth=d+1:=⟨P.depth - 1,by omega⟩;rw[b,liesAt];rw[iU];left;rw[b,rowAt];simp only[c];rw[ah (by decide)];rw[iU];left;have g:sameLayout P (d+1) e e=true:=by rw[sameLayout];simp
 simp[g];omega
theorem YL{b off n:Nat}{c:Array Value}{T:TypeId}{fz:Nat×Nat}(e:w.heap[b]? =some (.cells c T fz))(f:n≠0):
 ∃a,w.freeze ⟨b,off,none⟩ n={ w with heap:=w.heap.setIfInBounds b (.cells c T a) }:=by
 obtain⟨lo,hi⟩:=fz;refine⟨if lo==hi then(off,off+n)else(min lo off,max hi (off+n)),?_⟩;unfold World.freeze;rw[ah f];congr 1;apply oL;intro i;rw[Array.getElem?_modify];by_cases h:b=i
 .subst h
  obtain⟨d,hb2⟩:=aV.1 e;simp[d,hb2]
 .simp[h]
theorem abq(F:Fits P E)(a:abr E e=true):E.d e=some (.int .u8)∧P.cellsOf e=1:=by
 unfold abr at a;split at a
 .rename_i ti b
  split at a
  .rename_i c
   exact⟨by unfold Env.d;rw[b];simp[c],by rw[ED F b];exact au a⟩
  .cases a
 .cases a
theorem GH(F:Fits P E)(hP:K.P=P)(S:Sat K ι h w){A tn ty:TypeId}{p n v:AV}{h':AH}{M N:Value}(e:mY E h A p n=some (.val v h'))(hp:RV ι p M)(O:RV ι n N):
 fV P K ι h w (Builtin.unsafeString_ #[A,tn] ty #[M,N]) v h':=by
 unfold mY at e;split at e
 .rename_i k b
  obtain⟨h0,e⟩:=fJ e;cases e;simp only[oH]at h0;subst h0;unfold RV at hp;subst hp;obtain rfl:=iK O;refine fV.still S ?_ (v:= .string ⟨#[]⟩) (by unfold RV;rfl);unfold Builtin.unsafeString_;refine ak.aG (a:=0) (ak.pure _) ?_;exact ak.pure _
 .rename_i id off k b
  split at e
  .rename_i el vs el2 g z X Q
   .obtain⟨R,B⟩:=jf e
    clear e;have e:=B;clear B;simp only[aF,jW]at R;obtain⟨⟨⟨Y,h1⟩,h2⟩,h3⟩:=R;obtain rfl:el2=el:=au h1;split at e
    .rename_i c Z
     cases D:strOf c with
     |none=>rw[D]at e;cases e
     |some s=>
      rw[D]at e;cases e;obtain⟨q,T,rfl⟩:=jF hp;obtain rfl:=iK O;obtain⟨q',ob,i,U,V,b3,C,cc,lo,hi,rfl,⟨l1,l2,l,m⟩,_⟩:=S.at Q trivial;obtain rfl:q=q':=by rw[T]at i;exact aN i
      have r:P.cellsOf el2=1:=(abq F Y).2;obtain⟨t,u⟩:=wP Z;have G:off+b.toNat<=vs.length:=by
       have:=gu List.length t;rw[u]at this;simp at this;omega
      have W:vs.length<=cc.size:=by
       have h5:=gu List.length l;have h6:=m.length;simp at h5;omega
      have hl:liesAt P P.depth el2 (cc.size / P.cellsOf el2) off el2 b.toNat=true:=liesAt_bytes F.depth r (by rw[r];simp;omega);obtain⟨es,H,g2⟩:=FB (P:=P) (ι:=ι) C (off:=off) (acc:=ByteArray.empty) D (λj a f=>by
       rw[t]at f;rw[iP]at f;split at f
       .rw[kL]at f
        obtain⟨v,d,I⟩:=m.get f;refine⟨v,?_,I⟩;rw[← bI,l,aW]
        .exact d
        .rw[aA]at d;exact d.1
       .cases f)
      rw[u]at H;have e2:(⟨ByteArray.empty.data++s.toArray⟩:ByteArray)=⟨s.toArray⟩:=by
       show(⟨#[]++s.toArray⟩:ByteArray)=_;simp
      rw[e2]at H;have J:∀e∈es,zM K w.heap.size e:=by
       intro B L;obtain⟨o,rfl⟩:=g2 B L;exact⟨.inl ⟨U,V⟩,b3⟩
      unfold Builtin.unsafeString_;refine fV.aG (x:=b) (ak.pure _) ?_;have n1:¬b<0:=by omega
      have n2:¬b>IntKind.i64.max:=by simp only[IntKind.max,IntKind.bits,IntKind.signed];omega
      have n3:b≠0:=by omega
      have i1:(#[A,tn]:Array TypeId)[0]? =some A:=rfl;simp only[i1,n1,n2,n3,if_false];refine fV.aG (x:=el2) ?_ ?_
      .unfold elemOf
       exact ak.aG (ak.underlying (uU F X)) (ak.pure _)
      refine fV.aG (zH C) ?_;simp only[hl,if_true];refine fV.lC H J ?_;obtain⟨fz',y⟩:=YL (off:=off) (n:=b.toNat) C (by omega);intro hfr;refine⟨ι,_,.string ⟨s.toArray⟩,[],ak.bind (e1:=[]) (e2:=[]) (ak.freeze _ _) (ak.pure _),by rw[AH.sD];exact Grow.refl _ _,?_,LU,?_,AH.wV⟩
      .rw[y];exact S.ZT T Q C
      .rw[y];exact kP.Rf _ U V (by simp)
    .cases e
  .cases e
 .cases e
end
end
section
open Go.Conc (G)
variable{K:Ctx}{P:Program}{es:Array Event}{fn:FuncId}{n:Nat}
def RI(ι:Nm):AI->Item->Prop
 | .code c,i=>i= .code c
 | .inBlock id,i=>i= .inBlock id
 | .inLoop b,i=>i= .inLoop b
 | .inScope b,i=>i= .inScope b
 | .inRegion ops todo,i=>∃k,todo=ops.toList.drop k∧i= .inRegion ops ((List.range ops.size).drop k)
 | .inRangeFunc id,i=>∃p,ι id=some p∧i= .inRangeFunc p.1
 | .endRangeFunc id,i=>∃p,ι id=some p∧i= .endRangeFunc p.1
 | .beginRound,i=>i= .beginRound
 | .uz ops n,i=>∃a,Left ops n a∧i= .inRegion ops a
def Gy(ι:Nm):List AI->List Item->Prop
 |[],l=>l=[]
 |a::as,l=>∃i r,l=i::r∧RI ι a i∧Gy ι as r
def RD(ι:Nm)(a:AD)(d:Deferred):Prop:=
 match a.f with
 | .pF=>∀id,a.args=[.ptr id 0]->∃p,ι id=some p∧d={ target:= .collected p.1,args:=#[] }
 | .fn g first cap=>∃b as cs,dS ι first b∧dS ι a.args as∧dS ι cap cs.toList∧d={ target:= .fn (.func g) cs,args:=(b++as).toArray }
 |_=>True
def Zb(ι:Nm):List AD->List Deferred->Prop
 |[],l=>l=[]
 |a::as,l=>∃d r,l=d::r∧RD ι a d∧Zb ι as r
structure RF(ι:Nm)(f:AF)(fr:Frame):Prop where
 fn:fr.fn=f.x.fn
 tm:RT ι f.x.nt f.tm fr.tmps
 todo:Gy ι f.todo fr.todo
 ds:Zb ι f.ds fr.defers
 mode:fr.mode=if f.ret then .returning else .run
 kind:fr.kind=if f.x.deferred then .deferred else .normal
 round:match f.x.round with |none=>fr.roundOf=none|some id=>∃p,ι id=some p∧fr.roundOf=some p.1
section
variable{Z ι':Nm}
theorem RI.mono(c:Ext Z ι'){a:AI}{i:Item}(h:RI Z a i):RI ι' a i:=by
 cases a with
 |inRangeFunc id=>obtain⟨p,h1,b⟩:=h;exact⟨p,c _ _ h1,b⟩
 |endRangeFunc id=>obtain⟨p,h1,b⟩:=h;exact⟨p,c _ _ h1,b⟩
 |_=>exact h
theorem Gy.mono(b:Ext Z ι'){l:List AI}{is:List Item}(h:Gy Z l is):Gy ι' l is:=by
 induction l generalizing is with
 |nil=>exact h
 |cons a l c=>obtain⟨i,r,h1,d,e⟩:=h;exact⟨i,r,h1,d.mono b,c e⟩
theorem RD.mono(b:Ext Z ι'){a:AD}{d:Deferred}(h:RD Z a d):RD ι' a d:=by
 unfold RD at h ⊢;split at h
 .exact λid c=>by obtain⟨p,h1,e⟩:=h id c;exact⟨p,b _ _ h1,e⟩
 .obtain⟨f,as,cs,h1,e,g,i⟩:=h
  exact⟨f,as,cs,h1.mono b,e.mono b,g.mono b,i⟩
 .trivial
theorem Zb.mono(b:Ext Z ι'){l:List AD}{ds:List Deferred}(h:Zb Z l ds):Zb ι' l ds:=by
 induction l generalizing ds with
 |nil=>exact h
 |cons a l c=>obtain⟨i,r,h1,d,e⟩:=h;exact⟨i,r,h1,d.mono b,c e⟩
theorem RF.mono(a:Ext Z ι'){f:AF}{fr:Frame}(h:RF Z f fr):RF ι' f fr:=by
 refine⟨h.fn,h.tm.mono a,h.todo.mono a,h.ds.mono a,h.mode,h.kind,?_⟩;have:=h.round;split at this
 .exact this
 .obtain⟨p,h1,b⟩:=this;exact⟨p,a _ _ h1,b⟩
theorem Gy.cons{a:AI}{i:Item}{l:List AI}{is:List Item}(h:RI Z a i)(h':Gy Z l is):Gy Z (a::l) (i::is):=⟨i,is,rfl,h,h'⟩
theorem Zb.append{l m:List AD}{ds es:List Deferred}(h:Zb Z l ds)(h':Zb Z m es):Zb Z (l++m) (ds++es):=by
 induction l generalizing ds with
 |nil=>
  have:ds=[]:=h;subst this;exact h'
 |cons a l b=>obtain⟨d,r,rfl,c,e⟩:=h;exact⟨d,_,rfl,c,b e⟩
theorem pY{id:Nat}:∀{l:List AI} {is:List Item} {k:List AI},AP id l=some k->Gy Z l is->∃k',exitTo id is=some k'∧Gy Z k k'
 |[],_,_,e,_=>by cases e
 |a::l,is,k,e,h=>by
  obtain⟨i,r,rfl,h1,d⟩:=h;cases a with
  |inBlock b=>
   obtain rfl:i= .inBlock b:=h1;simp only[AP]at e;rw[exitTo];cases f:Nat.beq b id with
   |true=>
    rw[f]at e;simp only[bG,dh]at e;subst e;have:(b==id)=true:=by rw[← Fj];exact f
    rw[aC this];exact⟨r,rfl,d⟩
   |false=>
    rw[f]at e;simp only[bH]at e;have:¬(b==id)=true:=by rw[← Fj,f];simp
    rw[ah this];exact pY (l:=l) (is:=r) e d
  |code c=>obtain rfl:i= .code c:=h1;exact pY (l:=l) (is:=r) e d
  |inLoop c=>obtain rfl:i= .inLoop c:=h1;exact pY (l:=l) (is:=r) e d
  |inScope c=>obtain rfl:i= .inScope c:=h1;exact pY (l:=l) (is:=r) e d
  |inRegion ops td=>obtain⟨k',_,rfl⟩:=h1;exact pY (l:=l) (is:=r) e d
  |inRangeFunc b=>obtain⟨p,_,rfl⟩:=h1;exact pY (l:=l) (is:=r) e d
  |endRangeFunc b=>obtain⟨p,_,rfl⟩:=h1;exact pY (l:=l) (is:=r) e d
  |beginRound=>obtain rfl:i= .beginRound:=h1;exact pY (l:=l) (is:=r) e d
  |uz ops n=>obtain⟨_,_,rfl⟩:=h1;exact pY (l:=l) (is:=r) e d
theorem qP{id:Nat}:∀{l:List AI} {is:List Item},AP id l=none->Gy Z l is->exitTo id is=none
 |[],is,_,h=>by
  have:is=[]:=h;subst this;rfl
 |a::l,is,e,h=>by
  obtain⟨i,r,rfl,h1,d⟩:=h;cases a with
  |inBlock b=>
   obtain rfl:i= .inBlock b:=h1;simp only[AP]at e;rw[exitTo];cases f:Nat.beq b id with
   |true=>rw[f]at e;cases e
   |false=>
    rw[f]at e;simp only[bH]at e;have:¬(b==id)=true:=by rw[← Fj,f];simp
    rw[ah this];exact qP (l:=l) (is:=r) e d
  |code c=>obtain rfl:i= .code c:=h1;exact qP (l:=l) (is:=r) e d
  |inLoop c=>obtain rfl:i= .inLoop c:=h1;exact qP (l:=l) (is:=r) e d
  |inScope c=>obtain rfl:i= .inScope c:=h1;exact qP (l:=l) (is:=r) e d
  |inRegion ops td=>obtain⟨k',_,rfl⟩:=h1;exact qP (l:=l) (is:=r) e d
  |inRangeFunc b=>obtain⟨p,_,rfl⟩:=h1;exact qP (l:=l) (is:=r) e d
  |endRangeFunc b=>obtain⟨p,_,rfl⟩:=h1;exact qP (l:=l) (is:=r) e d
  |beginRound=>obtain rfl:i= .beginRound:=h1;exact qP (l:=l) (is:=r) e d
  |uz ops n=>obtain⟨_,_,rfl⟩:=h1;exact qP (l:=l) (is:=r) e d
theorem pX{t:Nat}:∀{l:List AI} {is:List Item} {k:List AI},AB t l=some k->Gy Z l is->∃k',gotoIn t is=some k'∧Gy Z k k'
 |[],_,_,e,_=>by cases e
 |a::l,is,k,e,h=>by
  obtain⟨i,r,rfl,h1,b⟩:=h;cases a with
  |inScope c=>
   obtain rfl:i= .inScope c:=h1;simp only[AB]at e;rw[gotoIn];split at e
   .rename_i f hr
    simp only[dh]at e;subst e;simp only[hr];exact⟨_,rfl,.cons rfl (.cons rfl b)⟩
   .rename_i hr
    simp only[hr];exact pX (l:=l) (is:=r) e b
  |code c=>obtain rfl:i= .code c:=h1;exact pX (l:=l) (is:=r) e b
  |inLoop c=>obtain rfl:i= .inLoop c:=h1;exact pX (l:=l) (is:=r) e b
  |inBlock c=>obtain rfl:i= .inBlock c:=h1;exact pX (l:=l) (is:=r) e b
  |inRegion ops td=>obtain⟨k',_,rfl⟩:=h1;exact pX (l:=l) (is:=r) e b
  |inRangeFunc d=>obtain⟨p,_,rfl⟩:=h1;exact pX (l:=l) (is:=r) e b
  |endRangeFunc d=>obtain⟨p,_,rfl⟩:=h1;exact pX (l:=l) (is:=r) e b
  |beginRound=>obtain rfl:i= .beginRound:=h1;exact pX (l:=l) (is:=r) e b
  |uz ops n=>obtain⟨_,_,rfl⟩:=h1;exact pX (l:=l) (is:=r) e b
theorem qO{t:Nat}:∀{l:List AI} {is:List Item},AB t l=none->Gy Z l is->gotoIn t is=none
 |[],is,_,h=>by
  have:is=[]:=h;subst this;rfl
 |a::l,is,e,h=>by
  obtain⟨i,r,rfl,h1,b⟩:=h;cases a with
  |inScope c=>
   obtain rfl:i= .inScope c:=h1;simp only[AB]at e;rw[gotoIn];split at e
   .cases e
   .rename_i hr
    simp only[hr];exact qO (l:=l) (is:=r) e b
  |code c=>obtain rfl:i= .code c:=h1;exact qO (l:=l) (is:=r) e b
  |inLoop c=>obtain rfl:i= .inLoop c:=h1;exact qO (l:=l) (is:=r) e b
  |inBlock c=>obtain rfl:i= .inBlock c:=h1;exact qO (l:=l) (is:=r) e b
  |inRegion ops td=>obtain⟨k',_,rfl⟩:=h1;exact qO (l:=l) (is:=r) e b
  |inRangeFunc d=>obtain⟨p,_,rfl⟩:=h1;exact qO (l:=l) (is:=r) e b
  |endRangeFunc d=>obtain⟨p,_,rfl⟩:=h1;exact qO (l:=l) (is:=r) e b
  |beginRound=>obtain rfl:i= .beginRound:=h1;exact qO (l:=l) (is:=r) e b
  |uz ops n=>obtain⟨_,_,rfl⟩:=h1;exact qO (l:=l) (is:=r) e b
end
def EvG(K:Ctx)(size:Nat)(e:Event):Prop:=zM K size e∨e=⟨.mark .disable,false,true⟩∨e=⟨.mark .enable,false,true⟩
structure iG(K:Ctx)(w w':World)(es:Array Event):Prop where
 size:w.heap.size<=w'.heap.size
 kept:∀b,b<w.heap.size->¬(¬K.fz b∧K.own b)->w'.heap[b]? =w.heap[b]?
 evs:∀e∈es,EvG K w'.heap.size e
 os:w'.os=w.os
 tape:w'.tape=w.tape
 output:w'.output=w.output
theorem YU(d:Nat)(e:Event)(l:List Event):deafBehind d (e::l).toArray=deafBehind (deafBehind d #[e]) l.toArray:=by simp[deafBehind]
theorem qh(h:∀e∈es,e.loc≠.mark .disable∧e.loc≠.mark .enable)(d:Nat):deafBehind d es=d:=by
 obtain⟨l⟩:=es;induction l with
 |nil=>rfl
 |cons e l c=>
  have f:=h e (by simp);have h1:deafBehind d #[e]=d:=by
   obtain⟨a,wr,g⟩:=e;cases a with
   |mark m=>cases m<;>simp_all [deafBehind]
   |_=>simp[deafBehind]
  rw[YU,h1];exact c (λx b=>h x (by simp at b ⊢;exact .inr b))
theorem zM.still{e:Event}(h:zM K n e):e.loc≠.mark .disable∧e.loc≠.mark .enable:=by
 obtain⟨b,wr,c⟩:=e;constructor<;>(intro a;simp only at a;subst a;exact h)
theorem nY{es:List Event}(h:∀e∈es,zM K n e)(d:Nat):deafBehind d (seen P fn es.toArray)=d:=
 qh (λe a=>(h e (by simpa using Conc.mem_seen a)).still) d
end
section
variable{tx ty:TypeId}{v:AV}
section
variable{P:Program}{K:Ctx}{Z:Nm}{h:AH}{w:World}{E:Env}
theorem aby(F:Fits P E)(N:Of K P E)(S:Sat K Z h w){ts:TypeId}{s:AV}{n:Int}{h':AH}{vs:Value}(e:N7 E h ts tx s n=some (v,h'))(X:RV Z s vs):
 fV P K Z h w (Builtin.append_ #[ts,tx] ty #[vs,.int .i64 n]) v h':=by
 unfold N7 at e;split at e
 .rename_i id off len cap
  split at e
  .rename_i el Y tby tzr O Q R D G
   have hd:E.d ts=some (.slice el):=by unfold Env.d;rw[D];rfl
   split at e
   .cases e
   .rename_i f A
    cases B:(Nat.beq f.bytes 0||Nat.blt 4096 f.bytes|| !decide (0<=n)|| !decide (n<=268435456)||Nat.blt 268435456 (len+cap)||Nat.ble (len+n.toNat) cap||Nat.beq (n.toNat*f.size) 0)with
    |true=>rw[B]at e;cases e
    |false=>
    rw[B,bH]at e;simp only[Bool.or_eq_false_iff]at B;obtain⟨⟨⟨⟨⟨⟨b,g⟩,o⟩,q⟩,l⟩,i⟩,c⟩:=B;have o:0<=n:=by simpa using o
    have q:n<=268435456:=by simpa using q
    obtain⟨m,rfl⟩:∃m:Nat,n=↑m:=⟨n.toNat,by omega⟩;rw[bZ]at i c e;have g:f.bytes<=4096:=by
     rcases aT 4096 f.bytes with h1|h1
     .rw[← dB,g]at h1;cases h1
     .exact h1
    have b:f.bytes≠0:=by intro h0;rw[h0]at b;cases b
    have l:len+cap<=268435456:=by
     rcases aT 268435456 (len+cap)with h1|h1
     .rw[← dB,l]at h1;cases h1
     .exact h1
    have i:¬(len+m<=cap):=λT=>by rw[← Nat.ble_eq,i]at T;cases T
    have c:m*f.size≠0:=by intro h0;rw[h0]at c;cases c
    obtain⟨p,hp,a,rfl,hle,r,_⟩:=kE X;obtain rfl:=r cap rfl;cases C:jA E h id off (len*f.size)with
    |none=>rw[C]at e;cases e
    |some old=>
    rw[C]at e;cases e;obtain⟨ii,z,j,his,u,hiz,_,_,hzs,hzl⟩:=(lI F A).info;obtain⟨U,H,I⟩:=(lI F G).desc;obtain⟨V,rfl⟩:∃V,U= .int V:=by
     cases U<;>first|exact I.elim|exact⟨_,rfl⟩
    unfold Builtin.append_;refine fV.aG (ak.underlying (eu F hd)) ?_;refine fV.aG (dW (lI F A)) ?_;have i1:(#[ts,tx]:Array TypeId)[1]? =some tx:=rfl;have i2:(#[Value.slice (some ⟨p.1,off,none⟩) len a,.int .i64 (↑m:Int)]:Array Value)[1]= .int .i64 ↑m:=rfl;have i3:(#[Value.slice (some ⟨p.1,off,none⟩) len a,.int .i64 (↑m:Int)]:Array Value)[0]= .slice (some ⟨p.1,off,none⟩) len a:=rfl;simp only[i1,i2,i3];refine fV.aG (ak.underlying H) ?_;refine fV.aG (x:=true) (ak.pure _) ?_;simp only[if_true,Bool.not_true,gJ,if_false];have hw:IntKind.i64.wrap (↑m:Int)=↑m:=by unfold IntKind.wrap;simp[IntKind.bits,IntKind.signed];omega
    have W:m*f.bytes<=268435456*4096:=Nat.mul_le_mul (by omega) g;refine fV.aG (x:=(↑m:Int)) (ak.pure _) ?_;rw[hw,ah (by omega)];refine fV.aG (ak.typeInfo j) ?_;rw[ah (by rw[u,← Int.natCast_mul];omega)];refine fV.aG (x:=m) (by rw[bZ];exact ak.pure _) ?_;rw[ah i];refine fV.aG (ak.typeInfo j) ?_;rw[ah (by
     have:IntKind.i64.max=9223372036854775807:=by decide
     rw[this];omega)]
    refine fV.aG (ak.typeInfo j) ?_;rw[ah (by
     rw[u];have h1:=KA (need:=len+m) (cap:=a) (by omega) (by omega);have h2:=Nat.mul_le_mul h1 g;omega)]
    refine fV.choose λk d y=>?_;refine fV.aG (ak.typeInfo j) ?_;refine fV.room ?_;obtain⟨cs,es,r1,r2,_,r3⟩:=nN (P:=P) (S.drawn d) N hp C;refine fV.lC r1 r3 ?_;rw[ah c];obtain⟨z2,J,_,L,hz4,M⟩:=nT (w:={ w with drawn:=d }) (ι:=Z) F A;refine fV.aG (ak.aG J (ak.pure _)) ?_;refine Gj F N.P (S.drawn d) A r2 (zQ L m) (Ae C) (by rw[tZ,M]) ?_;obtain⟨t,y|y⟩:=y
    .rw[y];simp only[Question.cut];omega
    .exact aX y.2 (by simp[Question.forced])
  .cases e
 .cases e
end
end
section
variable{α:Type}{r:OR}{s:Sem α}{t:TypeId}
section
variable{P:Program}{K:Ctx}{Y:Nm}{h:AH}{w:World}{E:Env}{X:Tr AV}{Z:Operand->Value}
def Yields(Y:Nm)(v:AV):Next->Prop
 | .value u=>RV Y v u
 | .skip=>RV Y v undef
 |_=>False
def VOk(P:Program)(K:Ctx)(Y:Nm)(h:AH)(w:World)(s:Sem Next)(v:AV)(h':AH):Prop:=Free Y h.nx h'.nx->
 ∃ι' w' nx es,ak P s w nx w' es∧Grow Y ι' h.nx h'.nx∧Sat K ι' h' w'∧Yields ι' v nx∧kP K w w' es∧h'.df=h.df
theorem fV.next{s:Sem Value}{v:AV}{h':AH}(h1:fV P K Y h w s v h'):VOk P K Y h w (do Pure.pure (.value (← s))) v h':=λb=>by
 obtain⟨ι',w',a,es,c,d,e,g,i,j⟩:=h1 b;refine⟨ι',w',.value a,es,?_,d,e,g,i,j⟩;have:=ak.bind c (ak.pure (P:=P) (w:=w') (Next.value a)) (f:=λv=>Pure.pure (Next.value v));simpa using this
theorem yE.next{s:Sem Unit}{v:AV}{h':AH}(h1:yE P K Y h w s h'∧v=iw):VOk P K Y h w (do s;Pure.pure .skip) v h':=λa=>by
 obtain⟨ι',w',es,b,c,d,e,g⟩:=h1.1 a;refine⟨ι',w',.skip,es,?_,c,d,?_,e,g⟩
 .have:=ak.bind b (ak.pure (P:=P) (w:=w') Next.skip) (f:=λ_=>Pure.pure Next.skip)
  simpa using this
 .rw[h1.2];exact lZ
def ROk(P:Program)(K:Ctx)(Y:Nm)(h:AH)(w:World)(s:Sem Next):OR->Prop
 | .val v h'=>VOk P K Y h w s v h'
 | .alts l=>∃p∈l,VOk P K Y h w s p.1 p.2
 | .call g args=>∃vs:Array Value,dS Y args vs.toList∧∀b,s.runT P w b=(callFunc g vs).runT P w b
 | .yield id args=>∃(p:Nat×Nat) (vs:Array Value),Y id=some p∧dS Y args vs.toList∧∀b,s.runT P w b=(Instr.yield p.1 vs).runT P w b
 | .yU a=>∃d,ak P s w (.defer d) w []∧RD Y a d
 | .stop=>True
theorem Jy{x:Option α}{f:α->OR}(e:x.map f=some r)(b:∀a,∃v h',f a= .val v h'):∃v h',r= .val v h':=by
 cases x with
 |none=>cases e
 |some a=>cases e;exact b a
theorem VP(e:vH E h t=some r):∃v h',r= .val v h':=by
 unfold vH at e;split at e<;>cases e;exact⟨_,_,rfl⟩
theorem abt{x:AV}(e:Gh E h t x=some r):∃v h',r= .val v h':=by
 unfold Gh at e;split at e
 .obtain⟨_,e⟩:=dO e;cases e;exact⟨_,_,rfl⟩
 .cases e
theorem Ji{l:Nat}{ps:List (Nat×AV)}(e:jh E h t l ps=some r):∃v h',r= .val v h':=by
 unfold jh at e;split at e
 .split at e
  .obtain⟨_,e⟩:=dO e;exact Jy e λa=>⟨_,_,rfl⟩
  .cases e
 .cases e
theorem U4{a v:AV}(e:jH E h t a v=some r):∃v h',r= .val v h':=by
 unfold jH at e;split at e
 .obtain⟨_,e⟩:=dO e
  obtain⟨_,e⟩:=jf e;exact Jy e λa=>⟨_,_,rfl⟩
 .cases e
theorem KG{l c:AV}(e:iy E h t l c=some r):∃v h',r= .val v h':=by
 unfold iy at e;split at e
 .split at e
  .obtain⟨_,rfl⟩:=fJ e;exact⟨_,_,rfl⟩
  .cases e
 .cases e
theorem Pg{x:Option AV}(e:lg E h t x=some r):∃v h',r= .val v h':=by
 unfold lg at e;split at e
 .cases e;exact⟨_,_,rfl⟩
 .split at e<;>cases e;exact⟨_,_,rfl⟩
 .cases e
theorem Bq{m k x:AV}(e:jO E h t m k x=some r):∃v h',r= .val v h':=by
 unfold jO at e;split at e
 .split at e
  .split at e<;>cases e<;>exact⟨_,_,rfl⟩
  .cases e
 .cases e
theorem MF{m k:AV}(e:oU E h t m k=some r):∃v h',r= .val v h':=by
 unfold oU at e;split at e
 .split at e
  .split at e
   .cases e
   .split at e<;>cases e;exact⟨_,_,rfl⟩
   .cases e;exact⟨_,_,rfl⟩
  .cases e
 .cases e
theorem Jf{m s x:AV}(e:lJ h m s x=some r):∃v h',r= .val v h':=by
 unfold lJ at e;split at e
 .split at e
  .split at e<;>cases e;exact⟨_,_,rfl⟩
  .cases e
 .cases e
theorem Ve{x:AV}(e:yK E h t x=some r):∃v h',r= .val v h':=by
 unfold yK at e;split at e
 .cases e;exact⟨_,_,rfl⟩
 .cases e;exact⟨_,_,rfl⟩
 .split at e<;>cases e;exact⟨_,_,rfl⟩
 .cases e
theorem TP{m k:AV}(e:Ap E h t m k=some r):∃v h',r= .val v h':=by
 unfold Ap at e;split at e
 .obtain⟨_,e⟩:=fJ e
  exact⟨_,_,e.symm⟩
 .split at e
  .split at e<;>cases e<;>exact⟨_,_,rfl⟩
  .cases e
 .cases e
theorem VI{m:AV}(e:EC E h t m=some r):∃v h',r= .val v h':=by
 unfold EC at e;split at e
 .split at e<;>cases e;exact⟨_,_,rfl⟩
 .split at e
  .obtain⟨_,e⟩:=dO e
   exact Jy e λa=>⟨_,_,rfl⟩
  .cases e
 .cases e
theorem EO{m k:AV}(e:mY E h t m k=some r):∃v h',r= .val v h':=by
 unfold mY at e;split at e
 .obtain⟨_,rfl⟩:=fJ e;exact⟨_,_,rfl⟩
 .split at e
  .obtain⟨_,e⟩:=jf e
   split at e
   .exact Jy e λa=>⟨_,_,rfl⟩
   .cases e
  .cases e
 .cases e
theorem aaw(f:Of K P E)(F:Fits P E)(S:Sat K Y h w){b:Builtin}{as:List AV}{ts:List TypeId}{r:OR}{args:Array Value}{tys:Array TypeId}{ty:TypeId}{cs:Array Bool}
 (e:gX E h b as ts=some r)(c:dS Y as args.toList)(o:tys.toList=ts):ROk P K Y h w (builtin b tys ty cs args) r:=by
 obtain⟨tys⟩:=tys;obtain⟨args⟩:=args;simp only at c o;subst o;unfold gX at e;split at e
 .split at e
  .rename_i s x t u
   obtain⟨v1,r1,rfl,h1,g⟩:=bf c;obtain⟨v2,r2,rfl,i,j⟩:=bf g;obtain rfl:=bU j;cases a:abz E h t u (nP E s) x with
   |none=>rw[a]at e;cases e
   |some p=>
    rw[a]at e;cases e;unfold abz at a;split at a
    .have:=iK i
     subst this;exact(aby F f S a (Ee S f h1)).next
    .exact(VO F f S a (Ee S f h1) (Ee S f i)).next
  .cases e
 .split at e
  .rename_i d s t l
   obtain⟨v1,r1,rfl,h1,g⟩:=bf c;obtain⟨v2,r2,rfl,i,j⟩:=bf g;obtain rfl:=bU j;cases c:IW E h t (nP E d) (nP E s)with
   |none=>rw[c]at e;cases e
   |some p=>
    rw[c]at e;cases e;have:=(aa7 (tx:=t) (ty:=ty) F f S c (Ee S f h1) (Ee S f i)).next
    exact this
  .cases e
 .split at e
  .rename_i m k t l
   obtain⟨v1,r1,rfl,h1,g⟩:=bf c;obtain⟨v2,r2,rfl,i,j⟩:=bf g;obtain rfl:=bU j;obtain⟨v,h',rfl⟩:=TP e;have:=(VH (ty:=ty) F S e h1 i).next
   exact this
  .cases e
 .split at e
  .rename_i m t l
   obtain⟨v1,r1,rfl,h1,g⟩:=bf c;obtain rfl:=bU g;obtain⟨v,h',rfl⟩:=VI e;have:=(YX (ty:=ty) F S e h1).next
   exact this
  .cases e
 .split at e
  .rename_i p n t l
   obtain⟨v1,r1,rfl,h1,g⟩:=bf c;obtain⟨v2,r2,rfl,i,j⟩:=bf g;obtain rfl:=bU j;obtain⟨v,h',rfl⟩:=EO e;have:=(GH (tn:=t) (ty:=ty) F f.P S e h1 i).next
   exact this
  .cases e
 .cases e
theorem S9{a:AV}{m:String}{args:List AV}(e:JE E a m args=some r):∃t v g,a= .iface t v∧(t,m,g)∈E.RU∧r= .call g (v::args):=by
 unfold JE at e;split at e
 .rename_i t v
  split at e
  .rename_i p hp
   cases e;have h1:=List.find?_some hp;have b:=List.mem_of_find?_eq_some hp;rw[aF]at h1;obtain⟨c,d,g⟩:=p;have e1:c=t:=au h1.1;have e2:d=m:=by simpa using h1.2
   subst e1;subst e2;exact⟨_,_,_,rfl,b,rfl⟩
  .cases e
 .cases e
theorem ak.Bc{c:Type}{a:α}{w1:World}(h1:ak P s w a w1 [])(f:α->Sem c)(b:Array Event):(s>>=f).runT P w b=(f a).runT P w1 b:=by
 have:b++([]:List Event).toArray=b:=by simp
 rw[runT_bind,h1 b,this]
theorem abp(J:Of K P E)(F:Fits P E)(S:Sat K Y h w)(o:∀x,RV Y (ev X x) (Z x)){c:Call}{ty:TypeId}{r:OR}(k:D8 c E X h=some r):ROk P K Y h w (do let d ← resolve Z c ty;invoke d.target d.args) r:=by
 unfold D8 at k;have e:dS Y (evs X c.args.toList) (c.args.map Z).toList:=by simpa using wC o c.args.toList
 split at k
 .rename_i b y
  have h1:=aaw (ty:=ty) (cs:=c.args.map λ| .const _=>true|_=>false) (args:=c.args.map Z) (tys:=c.argTypes) J F S k e rfl;have hr:∀w,ak P (resolve Z c ty) w { target:= .builtin b c.argTypes ty (c.args.map λ| .const _=>true|_=>false),args:=c.args.map Z } w []:=by
   intro w;unfold resolve;rw[y];exact ak.pure _
  have j:∀f,((do let d ← resolve Z c ty;invoke d.target d.args):Sem Next).runT P w f=(builtin b c.argTypes ty (c.args.map λ| .const _=>true|_=>false) (c.args.map Z)).runT P w f:=by
   intro f;rw[ak.Bc (hr w)];rfl
  have conv:∀{v:AV} {h':AH},VOk P K Y h w (builtin b c.argTypes ty (c.args.map λ| .const _=>true|_=>false) (c.args.map Z)) v h'->VOk P K Y h w (do let d ← resolve Z c ty;invoke d.target d.args) v h':=by
   intro v h' q C;obtain⟨ι',w',nx,es,k1,L⟩:=q C;exact⟨ι',w',nx,es,λf=>by rw[j f];exact k1 f,L⟩
  cases r with
  |val v h'=>exact conv h1
  |alts l=>obtain⟨p,hp,n⟩:=h1;exact⟨p,hp,conv n⟩
  |call g args=>obtain⟨vs,n,z⟩:=h1;exact⟨vs,n,λf=>by rw[j f];exact z f⟩
  |yield id args=>obtain⟨p,vs,n,z,M⟩:=h1;exact⟨p,vs,n,z,λf=>by rw[j f];exact M f⟩
  |yU a=>
   obtain⟨d,n,z⟩:=h1;exact⟨d,λf=>by rw[j f];exact n f,z⟩
  |stop=>trivial
 .rename_i g y
  have A:=o g;unfold XL at k;split at k
  .rename_i i first cap q
   cases k;rw[q]at A;obtain⟨I,cs,s,C,D⟩:=yP A;refine⟨(I++c.args.map Z)++cs,?_,λf=>?_⟩
   .simp only[dP]
    exact(C.append e).append D
   .have hr:ak P (resolve Z c ty) w { target:= .fn (.func i) cs,args:=I++c.args.map Z } w []:=by
     unfold resolve;rw[y];simp only[s];exact ak.pure _
    rw[ak.Bc hr];rfl
  .rename_i l q
   cases k;rw[q]at A;unfold RV at A;obtain⟨p,hp,s⟩:=A;refine⟨p,c.args.map Z,hp,e,λf=>?_⟩;have hr:ak P (resolve Z c ty) w { target:= .fn (.yield p.1) #[],args:=#[]++c.args.map Z } w []:=by
    unfold resolve;rw[y];simp only[s];exact ak.pure _
   rw[ak.Bc hr];have:(#[]:Array Value)++c.args.map Z=c.args.map Z:=by simp
   rw[this];rfl
  .cases k
 .rename_i N m y
  obtain⟨t,v,g,G,O,rfl⟩:=S9 k;have hr:=o N;rw[G]at hr;obtain⟨u,Q,q⟩:=zu hr;refine⟨#[u]++c.args.map Z,?_,λf=>?_⟩
  .simp only[dP]
   exact cO q e
  .have H:ak P (resolve Z c ty) w { target:= .fn (.method m) #[],args:=#[.iface t u]++c.args.map Z } w []:=by
    unfold resolve;rw[y];simp only[Q];exact ak.pure _
   rw[ak.Bc H];have h1:(#[Value.iface t u]++c.args.map Z)[0]? =some (.iface t u):=by rw[Array.getElem?_append_left (by simp)];rfl
   have n:(#[Value.iface t u]++c.args.map Z).extract 1 (#[Value.iface t u]++c.args.map Z).size=c.args.map Z:=by
    apply dH.1;simp;exact eP (by simp)
   have B:invoke (.fn (.method m) #[]) (#[.iface t u]++c.args.map Z)=callMethod (.iface t u) m (c.args.map Z):=by
    unfold invoke;simp only[h1];rw[n]
   simp only;rw[B];unfold callMethod;simp only;rw[ak.Bc ak.program,ak.Bc (F.RU t m g O u w)]
set_option maxHeartbeats 2000000 in
theorem Du(B:Of K P E)(F:Fits P E)(S:Sat K Y h w)(j:∀x,RV Y (ev X x) (Z x)){o:Oper}(e:fQ o.op E X h=some r):ROk P K Y h w (execOp Z o) r:=by
 unfold execOp;cases D:o.op<;>rw[D]at e
 case alloc t=>
  have n:vH E h t=some r:=e;obtain⟨v,h',rfl⟩:=VP n;exact(Y5 F S n).next
 case box t x=>
  have n:Gh E h t (ev X x)=some r:=e;obtain⟨v,h',rfl⟩:=abt n;exact(adn S n (j x)).next
 case buildSlice t l ps=>
  have n:jh E h t l (UO X ps.toList)=some r:=e;obtain⟨v,h',rfl⟩:=Ji n;have u:RVp Y (UO X ps.toList) (ps.map λ(i,x)=>(i,Z x)).toList:=by
   have:=Qi j ps.toList;simpa using this
  exact(Lr (vs:=ps.map λ(i,x)=>(i,Z x)) F S n u).next
 case store t a x=>
  have n:jH E h t (ev X a) (ev X x)=some r:=e;obtain⟨v,h',rfl⟩:=U4 n;exact yE.next (Yf F S n (j a) (j x))
 case insert t m k x=>
  have n:jO E h t (ev X m) (ev X k) (ev X x)=some r:=e;obtain⟨v,h',rfl⟩:=Bq n;exact yE.next (DZ F S n (j m) (j k) (j x))
 case mapUpdate t m k x=>
  have n:jO E h t (ev X m) (ev X k) (ev X x)=some r:=e;obtain⟨v,h',rfl⟩:=Bq n;exact yE.next (DZ F S n (j m) (j k) (j x))
 case mapEntry t m k=>
  have n:oU E h t (ev X m) (ev X k)=some r:=e;obtain⟨v,h',rfl⟩:=MF n;exact(Pe F S n (j m) (j k)).next
 case entryStore t m s x=>
  have n:lJ h (ev X m) (ev X s) (ev X x)=some r:=e;obtain⟨v,h',rfl⟩:=Jf n;exact yE.next (KX S n (j m) (j s) (j x))
 case convert s d x=>
  have n:IY E s d (ev X x) h=some r:=e;obtain⟨v,h',rfl,h1⟩:=abd F B S n (j x);exact h1.next
 case makeMap t x=>
  have n:lg E h t (PO X x)=some r:=e;obtain⟨v,h',rfl⟩:=Pg n;exact(Si F S n (JM j x)).next
 case makeSlice t l c=>
  have n:iy E h t (ev X l) (ev X c)=some r:=e;obtain⟨v,h',rfl⟩:=KG n;exact(MH F S n (j l) (j c)).next
 case range t x=>
  have n:yK E h t (ev X x)=some r:=e;obtain⟨v,h',rfl⟩:=Ve n;exact(Yo F S n (j x)).next
 case next it isS=>
  have n:IK h (ev X it) isS=some r:=e;have:=aaq (P:=P) (ty:=o.type) S n (j it);cases r with
  |val v h'=>
   have h1:fV P K Y h w _ _ _:=this;exact h1.next
  |alts l=>
   obtain⟨p,hp,h1⟩:=this;exact⟨p,hp,h1.next⟩
  |_=>exact this.elim
 case call c=>exact abp (ty:=o.type) B F S j e
 case go c=>cases e;trivial
 case defer c=>
  have n:(match c.callee with
   | .value g=>(match ev X g with
     | .fn f a b=>some (OR.yU ⟨.fn f a b,evs X c.args.toList⟩)
     |_=>none)
   |_=>none)=some r:=e
  split at n
  .rename_i g G
   split at n
   .rename_i f a b H
    cases n;have C:=j g;rw[H]at C;obtain⟨y,cs,z,I,A⟩:=yP C;have q:dS Y (evs X c.args.toList) (c.args.map Z).toList:=by simpa using wC j c.args.toList
    refine⟨{ target:= .fn (.func f) cs,args:=y++c.args.map Z },?_,y.toList,(c.args.map Z).toList,cs,I,q,A,by simp⟩;refine ak.aG (a:={ target:= .fn (.func f) cs,args:=y++c.args.map Z }) ?_ (ak.pure _);unfold resolve;rw[G];simp only[z];exact ak.pure _
   .cases n
  .cases n
 all_goals (cases e)
end
end
section
open Go.Conc (G)
variable{fr:Frame}{nx:Next}{tm:Tr AV}{tmps:Array Value}{u:Value}{v:AV}
def EOk(P:Program)(K:Ctx)(ι:Nm)(h:AH)(w:World)(s:Sem Next)(v:AV)(h':AH):Prop:=Free ι h.nx h'.nx->
 ∃ι' w' nx es,ak P s w nx w' es∧Grow ι ι' h.nx h'.nx∧Sat K ι' h' w'∧Yields ι' v nx∧(∀fn,iG K w w' (seen P fn es.toArray)∧deafBehind h.df (seen P fn es.toArray)=h'.df)
structure eU(P:Program)(E:Env):Prop where
 code : ∀ g c n rs x, E.ft.get g = some ⟨some c, n, rs, x⟩ → ∃ fn, P.funcs[g]? = some fn ∧ fn.body = some c ∧ fn.ntmps = n ∧ fn.results.toList = rs ∧ (fn.name == "runtime.NumGoroutine") = false
 ext:∀g n rs x,E.ft.get g=some ⟨none,n,rs,x⟩->∀(K:Ctx) ι h w args (vs:Array Value) v h',Of K P E->Sat K ι h w->dS ι args vs.toList->PN x args h=some (.val v h')->EOk P K ι h w (callFunc g vs) v h'
 mixed:P.follows .mixedOrders=true
 afp:P.follows .rangeFuncRecover=P.follows .rangeFuncRecover
section
variable{P:Program}{Y:Bool}{K:Ctx}{Z:Nm}{h:AH}{w:World}{E:Env}
theorem Sat.FU{w':World}{h':AH}{ι':Nm}(S:Sat K Z h w)(a:Sat K ι' h' w'){es:List Event}(b:kP K w w' es)(fn:FuncId):iG K w w' (seen P fn es.toArray):=
 ⟨b.size,b.kept,λe c=> .inl (b.evs e (by simpa using Conc.mem_seen c)),a.os.trans S.os.symm,a.tape.trans S.tape.symm,a.output.trans S.output.symm⟩
theorem iG.refl(w:World):iG K w w #[]:=⟨aj _,λ_ _ _=>rfl,by simp,rfl,rfl,rfl⟩
theorem iG.drawn(w:World)(d:Nat):iG K w { w with drawn:=d } #[]:=⟨aj _,λ_ _ _=>rfl,by simp,rfl,rfl,rfl⟩
theorem VOk.ext{s:Sem Next}{h':AH}(S:Sat K Z h w)(c:VOk P K Z h w s v h'):EOk P K Z h w s v h':=λd=>by
 obtain⟨ι',w',nx,es,h1,e,a,f,b,g⟩:=c d;exact⟨ι',w',nx,es,h1,e,a,f,λfn=>⟨S.FU a b fn,by rw[nY b.evs,g]⟩⟩
theorem NOk.ext{s:Sem Next}(S:Sat K Z h w)(b:NOk P K Z w s v):EOk P K Z h w s v h:=λ_=>by
 obtain⟨u,es,h1,c,a⟩:=b;exact⟨Z,w,.value u,es,h1,Grow.refl _ _,S,c,λfn=>⟨S.FU S (kP.refl K w a) fn,by rw[nY a]⟩⟩
def yv:Next->Value
 | .value v=>v
 |_=>undef
def Waits(Z:Nm)(f:AF)(dst:Option Tmp)(fr:Frame):Prop:=
 ∀ι' v u,Ext Z ι'->RV ι' v u->RF ι' ⟨f.x,fin f.x dst v f.tm,f.todo,f.ds,false⟩ (fr.finish u)
structure pG(Z:Nm)(x:AX)(tm:Tr AV)(ds:List AD)(ops:Array Oper)(i:Nat)(rest:List Nat)(k':List Item)(fr:Frame):Prop where
 fn:fr.fn=x.fn
 tm:RT Z x.nt tm fr.tmps
 todo:fr.todo= .inRegion ops (i::rest)::k'
 ds:Zb Z ds fr.defers
 mode:fr.mode= .run
 kind:fr.kind=if x.deferred then .deferred else .normal
 round:match x.round with |none=>fr.roundOf=none|some id=>∃p,Z id=some p∧fr.roundOf=some p.1
structure iC(Z:Nm)(x:AX)(tm:Tr AV)(ds:List AD)(ops:Array Oper)(rest:List Nat)(k':List Item)(fr:Frame):Prop where
 fn:fr.fn=x.fn
 tm:RT Z x.nt tm fr.tmps
 todo:fr.todo= .inRegion ops rest::k'
 ds:Zb Z ds fr.defers
 mode:fr.mode= .run
 kind:fr.kind=if x.deferred then .deferred else .normal
 round:match x.round with |none=>fr.roundOf=none|some id=>∃p,Z id=some p∧fr.roundOf=some p.1
theorem qZ{ι':Nm}(a:Ext Z ι'){x:AX}{r:Option Nat}(h:match x.round with |none=>r=none|some id=>∃p,Z id=some p∧r=some p.1):
 match x.round with |none=>r=none|some id=>∃p,ι' id=some p∧r=some p.1:=by
 split at h
 .exact h
 .obtain⟨p,h1,b⟩:=h;exact⟨p,a _ _ h1,b⟩
theorem acY{Z:Nm}{x:AX}(h:RT Z x.nt tm tmps)(d:Option Tmp)(a:RV Z v u):
 RT Z x.nt (fin x d v tm) (match d with |some d=>tmps.setIfInBounds d u|none=>tmps):=by
 cases d with
 |none=>exact h
 |some d=>exact h.put a
theorem pG.finish{x:AX}{tm:Tr AV}{ds:List AD}{ops:Array Oper}{i:Nat}{a:List Nat}{k':List Item}{fr:Frame}(H:pG Z x tm ds ops i a k' fr){o:Oper}(c:ops[i]? =some o)
 {ι':Nm}(b:Ext Z ι'){v:AV}{u:Value}(d:RV ι' v u):iC ι' x (fin x o.dst v tm) ds ops a k' (fr.finish u):=by
 have e:(ops[i]?).bind (·.dst)=o.dst:=by rw[c];rfl
 unfold Frame.finish;rw[H.todo];simp only[e];refine⟨H.fn,?_,rfl,H.ds.mono b,H.mode,H.kind,qZ b H.round⟩;exact acY (H.tm.mono b) o.dst d
theorem y5 {x : AX} {tm : Tr AV} {ds : List AD} {ops : Array Oper} {i : Nat} {rest : List Nat} {k' : List Item} {fr : Frame} {cs : List Frame} (H : pG Z x tm ds ops i rest k' fr)
 (hw : ∀ o, ops[i]? = some o → Region.wanted o (yielded ops fr.tmps) = false) : stepG P Y (G fr cs) w = .go (G (fr.finish undef) cs) w #[] := by
 have hm := H.mode
 have ht := H.todo
 have : ((ops[i]?).map (Region.wanted · (yielded ops fr.tmps))).getD false = false := by
  cases ho : ops[i]? with
  | none => rfl
  | some o => simp [hw o ho]
 simp [G, stepG, hm, stepG.exec, ht, this]
theorem oQ {x : AX} {tm : Tr AV} {ds : List AD} {ops : Array Oper} {i : Nat} {rest : List Nat} {k' : List Item} {fr : Frame} {cs : List Frame} (H : pG Z x tm ds ops i rest k' fr) {o : Oper} (ho : ops[i]? = some o)
 (hw : Region.wanted o (yielded ops fr.tmps) = true) (hd : fr.roundOf = none ∨ ∀ c, o.op ≠ .defer c) : stepG P Y (G fr cs) w = stepG.apply P true fr cs none (execOp fr.eval o) w := by
 have hm := H.mode
 have ht := H.todo
 have h1 : ((ops[i]?).map (Region.wanted · (yielded ops fr.tmps))).getD false = true := by simp [ho, hw]
 have h2 : fr.oper? = some o := by unfold Frame.oper?; rw [ht]; exact ho
 have h3 : stepG.oper P true fr cs none w = stepG.apply P true fr cs none (execOp fr.eval o) w := by
  unfold stepG.oper
  rw [h2]
  simp only
  rcases hd with hd | hd
  · rw [hd]
  · cases hr : fr.roundOf with
    | none => rfl
    | some l =>
      cases hop : o.op <;> first
       | rfl
       | exact absurd hop (hd _)
 have h4 : stepG P Y (G fr cs) w = stepG.exec P Y true fr cs none w := by
  simp [G, stepG, hm]
 rw [h4]
 unfold stepG.exec
 simp only [ht]
 rw [if_pos h1]
 exact h3
theorem jQ{x:AX}{k:CallKind}(a:k=if x.deferred then .deferred else .normal):(k==CallKind.early)=false:=by
 subst a;cases x.deferred<;>rfl
theorem wz{x:AX}{tm:Tr AV}{ds:List AD}{ops:Array Oper}{i:Nat}{a:List Nat}{k':List Item}{fr:Frame}{cs:List Frame}(H:pG Z x tm ds ops i a k' fr){s:Sem Next}{nx:Next}{w':World}{es:List Event}
 (b:ak P s w nx w' es){v:AV}{ι':Nm}(c:Yields ι' v nx):stepG.apply P true fr cs none s w= .go (G (fr.finish (yv nx)) cs) w' (seen P fr.fn es.toArray):=by
 have d:=jQ H.kind;have hr:=b #[];simp only[gK]at hr;unfold stepG.apply;simp only[if_true,hr,d];cases nx with
 |value u=>simp[GStep.after,G,yv]
 |skip=>simp[GStep.after,G,yv]
 |_=>exact c.elim
theorem uX{cs:List Frame}{s a:Sem Next}(h:s.runT P w #[]=a.runT P w #[]):stepG.apply P true fr cs none s w=stepG.apply P true fr cs none a w:=by
 unfold stepG.apply;simp only[if_true,h]
theorem Yields.rv(h:Yields Z v nx):RV Z v (yv nx):=by
 cases nx<;>first|exact h|exact h.elim
end
end
section
open Go.Conc (G)
section
variable{P:Program}{main:Bool}{K:Ctx}{Z:Nm}{h:AH}{w:World}{E:Env}
theorem getD_some{tmps:Array Value}{d:Nat}{v:Value}(h:tmps.getD d undef=v)(a:v≠undef):tmps[d]? =some v:=by
 rw[bg]at h;cases b:tmps[d]? with
 |none=>rw[b]at h;exact aX h.symm a
 |some x=>rw[b]at h;exact gu some h
theorem jY{o:Oper}{ops:Array Oper}{nt:Nat}{tm:Tr AV}{tmps:Array Value}(l:RT Z nt tm tmps){b:Bool}(e:dU o ops tm=some b):Region.wanted o (yielded ops tmps)=b:=by
 unfold dU at e;unfold Region.wanted;split at e
 .rename_i f;rw[f];exact aN e
 .rename_i p f
  rw[f];obtain⟨j,c⟩:=p;simp only at e ⊢;unfold Vz at e;unfold yielded;split at e
  .rename_i hj;rw[hj];cases e;rfl
  .rename_i r hj
   rw[hj];simp only[Option.bind_some];split at e
   .rename_i g;rw[g];cases e;rfl
   .rename_i d g
    rw[g];simp only[Option.bind_some];split at e
    .rename_i b' k
     have a:=l.2 d _ k;unfold RV at a;have:=getD_some a (by unfold undef;simp);rw[this];cases e;cases c<;>cases b'<;>rfl
    .rename_i k
     have a:=l.2 d _ k;unfold RV at a;obtain⟨cs,a,m⟩:=a;have n:=bU m;cases e;rw[bg]at a;cases q:tmps[d]? with
     |none=>rfl
     |some x=>
      rw[q]at a;have:x= .tuple cs:=a;subst this;rfl
    .cases e
def GoTo(P:Program)(main:Bool)(K:Ctx)(Z:Nm)(h:AH)(w:World)(fr:Frame)(cs:List Frame)(T:Nm->Frame->Prop)(h':AH):Prop:=Free Z h.nx h'.nx->
 ∃ι' a w' es,stepG P main (G fr cs) w= .go (G a cs) w' es∧Grow Z ι' h.nx h'.nx∧Sat K ι' h' w'∧T ι' a∧iG K w w' es∧deafBehind h.df es=h'.df
def abU(P:Program)(main:Bool)(K:Ctx)(Z:Nm)(h:AH)(w:World)(fr:Frame)(cs:List Frame)(W:Nm->Frame->Prop)(g:FuncId)(args:List AV)(kind:CallKind)(h':AH):Prop:=Free Z h.nx h'.nx->
 ∃ι' a vs w' es,stepG P main (G fr cs) w= .go (G (Frame.enter P g vs kind) (a::cs)) w' es∧Grow Z ι' h.nx h'.nx∧Sat K ι' h' w'∧dS ι' args vs.toList∧W ι' a∧iG K w w' es∧deafBehind h.df es=h'.df
def Qh(P:Program)(main:Bool)(K:Ctx)(Z:Nm)(w:World)(fr:Frame)(cs:List Frame)(id:Nat)(args:List AV)(h:AH):Prop:=
 ∀g,wQ h id args=some g->∃a es,stepG P main (G fr cs) w= .go (G a (fr::cs)) w es∧iG K w w es∧deafBehind h.df es=h.df∧RF Z g a
theorem UF{nt:Nat}:∀{ps:List Nat} {args:List AV} {vs:List Value} {tm:Tr AV} {tmps:Array Value},RT Z nt tm tmps->dS Z args vs->
 RT Z nt (WG (ps.zip args) nt tm) ((ps.zip vs).foldl (λtmps (t,a)=>tmps.setIfInBounds t a) tmps)
 |[],_,_,_,_,h,_=>h
 |p::ps,[],vs,_,_,h,b=>by
  rw[bU b];exact h
 |p::ps,a::l,vs,_,_,h,b=>by
  obtain⟨v,r,rfl,h1,c⟩:=bf b;exact UF (ps:=ps) (h.put h1) c
section op
variable{x:AX}{W:Tr AV}{U:List AD}{Y:Array Oper}{i:Nat}{X:List Nat}{V:List Item}{fr:Frame}{cs:List Frame}{o:Oper}
theorem Dj(S:Sat K Z h w)(H:pG Z x W U Y i X V fr)(d:Y[i]? =some o)(e:Region.wanted o (yielded Y fr.tmps)=true)(f:fr.roundOf=none∨∀c,o.op≠.defer c)
 {s:Sem Next}(g:(execOp fr.eval o).runT P w #[]=s.runT P w #[]){v:AV}{h':AH}(j:EOk P K Z h w s v h')(k:True):
 Free Z h.nx h'.nx->∃ι' u w' es,stepG P main (G fr cs) w= .go (G (fr.finish u) cs) w' es∧Grow Z ι' h.nx h'.nx∧Sat K ι' h' w'∧RV ι' v u∧iG K w w' es∧deafBehind h.df es=h'.df:=λl=>by
 obtain⟨ι',w',nx,es,h1,m,n,a,b⟩:=j l;refine⟨ι',yv nx,w',seen P fr.fn es.toArray,?_,m,n,a.rv,(b fr.fn).1,(b fr.fn).2⟩;rw[oQ H d e f,uX g];exact wz H h1 a
theorem sN {g : FuncId} {vs : Array Value} {fn : Func} (a : P.funcs[g]? = some fn) (d : fn.body.isSome = true) (b : (fn.name == "runtime.NumGoroutine") = false) : ak P (callFunc g vs) w (.enter g vs) w [] := by
 unfold callFunc;refine ak.aG ak.program ?_;simp only[a,b];have:fn.body.isNone=false:=by cases c:fn.body<;>simp_all
 simp only[this];exact ak.pure _
theorem Nv(FF:eU P E)(H:pG Z x W U Y i X V fr)(b:Y[i]? =some o)(d:Region.wanted o (yielded Y fr.tmps)=true)(f:fr.roundOf=none∨∀c,o.op≠.defer c)
 {g:FuncId}{vs:Array Value}(j:(execOp fr.eval o).runT P w #[]=(callFunc g vs).runT P w #[]){c:Code}{n:Nat}{a:List ResultVar}{e:EX}(k:E.ft.get g=some ⟨some c,n,a,e⟩):
 stepG P main (G fr cs) w= .go (G (Frame.enter P g vs .normal) (fr::cs)) w #[]:=by
 obtain⟨fn,h1,l,_,_,m⟩:=FF.code g c n a e k;have hr:=sN (w:=w) (vs:=vs) h1 (by rw[l];rfl) m #[];rw[oQ H b d f,uX j];have p:=jQ H.kind;unfold stepG.apply;simp only[if_true,hr,p,H.todo];simp[GStep.after,G,seen]
theorem Yr(S:Sat K Z h w)(H:pG Z x W U Y i X V fr)(z:Y[i]? =some o)(A:Region.wanted o (yielded Y fr.tmps)=true)(B:fr.roundOf=none∨∀c,o.op≠.defer c)
 {id:Nat}{args:List AV}{p:Nat×Nat}{vs:Array Value}(hp:Z id=some p)(s:dS Z args vs.toList)(C:(execOp fr.eval o).runT P w #[]=(Instr.yield p.1 vs).runT P w #[]):Qh P main K Z w fr cs id args h:=λg f=>by
 unfold wQ at f;split at f
 .rename_i st Q fn nt n ps a b d j
  obtain⟨D,ob,k,hb1,hb2,hb3,hb4,hb5⟩:=S.at j trivial;obtain rfl:p=D:=by rw[hp]at k;exact aN k
  obtain⟨q,R,L,rfl,e1,e2,F,I,u,J,M,T⟩:=hb5;cases r:Nat.beq args.length ps.length with
  |false=>rw[r]at f;cases f
  |true=>
   rw[r]at f;simp only[bG,dh]at f;subst f;have l:vs.size=L.params.size:=by
    have h1:=au r;have N:=s.length;rw[← u]at h1;simp at h1 N;omega
   have m:ak P (Instr.yield p.1 vs) w (.round p.1 L.fn ((L.params.zip vs).foldl (λtmps (t,a)=>tmps.setIfInBounds t a) L.tmps) L.assign L.body) w [⟨.obj p.1,false,false⟩]:=by
    unfold Instr.yield;refine ak.bind (w1:=w) (e2:=[]) (e1:=[⟨.obj p.1,false,false⟩]) (a:=L) ?_ ?_
    .unfold Instr.getLoop
     have:=ak.getObj (P:=P) hb4 (by simp);refine ak.bind (w1:=w) (e2:=[]) (e1:=[⟨.obj p.1,false,false⟩]) this ?_;exact ak.pure _
    .simp only[l,ne_eq,not_true_eq_false,if_false]
     exact ak.pure _
   have v:∀e∈[(⟨.obj p.1,false,false⟩:Event)],zM K w.heap.size e:=by
    intro e y;simp only[bY]at y;subst y;exact⟨hb1,hb2,hb3,rfl⟩
   refine⟨Frame.round p.1 L.fn ((L.params.zip vs).foldl (λtmps (t,a)=>tmps.setIfInBounds t a) L.tmps) L.assign L.body .normal,seen P fr.fn #[⟨.obj p.1,false,false⟩],?_,?_,?_,?_⟩
   .have hr:=m #[]
    have O:=jQ H.kind;rw[oQ H z A B,uX C];unfold stepG.apply;simp only[if_true,hr,O];simp[GStep.after,G]
   .exact S.FU S (kP.refl K w v) fr.fn
   .exact nY v h.df
   .refine⟨F,?_,?_,rfl,rfl,rfl,⟨p,hp,rfl⟩⟩
    .show RT Z nt (WG (ps.zip args) nt n) _
     rw[← oK];rw[Array.toList_zip,u];exact UF I s
    .exact⟨_,_,rfl,by show _=_;rw[J],_,_,rfl,rfl,_,_,rfl,by show _=_;rw[M],rfl⟩
 .cases f
end op
end
end
section
open Go.Conc (G)
variable{r:OR}
section
variable{P:Program}{main:Bool}{K:Ctx}{Z:Nm}{h:AH}{w:World}{E:Env}
variable{x:AX}{V:Tr AV}{T:List AD}{Y:Array Oper}{i:Nat}{X:List Nat}{U:List Item}{W:Frame}{cs:List Frame}{o:Oper}
theorem pG.U9(H:pG Z x V T Y i X U W)(y:Operand):RV Z (ev V y) (W.eval y):=H.tm.ev W rfl y
theorem IV{c:Call}(a:o.op= .defer c):fD o.op E V h=none:=by rw[a];rfl
theorem quiet_step(g:Of K P E)(F:Fits P E)(S:Sat K Z h w)(H:pG Z x V T Y i X U W)(b:Y[i]? =some o)(j:Region.wanted o (yielded Y W.tmps)=true)
 {v:AV}(e:fD o.op E V h=some v):GoTo P main K Z h w W cs (λι' a=>iC ι' x (fin x o.dst v V) T Y X U a) h:=λd=>by
 have k:W.roundOf=none∨∀c,o.op≠.defer c:= .inr λc l=>by rw[IV l]at e;cases e
 obtain⟨ι',u,w',es,h1,f,m,n,p,q⟩:=Dj (main:=main) (cs:=cs) S H b j k rfl (NOk.ext S (Q8 g F S H.U9 e)) trivial d;exact⟨ι',_,w',es,h1,f,m,H.finish b (f.ext d) n,p,q⟩
theorem qM(e:fQ o.op E V h=some r)(hr:∀a,r≠.yU a):∀c,o.op≠.defer c:=λc j=>by
 rw[j]at e;have d:(match c.callee with
  | .value g=>(match ev V g with
    | .fn f a b=>some (OR.yU ⟨.fn f a b,evs V c.args.toList⟩)
    |_=>none)
  |_=>none)=some r:=e
 split at d
 .split at d
  .cases d;exact hr _ rfl
  .cases d
 .cases d
theorem Fq(f:Of K P E)(F:Fits P E)(S:Sat K Z h w)(H:pG Z x V T Y i X U W)(b:Y[i]? =some o)(g:Region.wanted o (yielded Y W.tmps)=true)
 {v:AV}{h':AH}(e:fQ o.op E V h=some (.val v h')):GoTo P main K Z h w W cs (λι' a=>iC ι' x (fin x o.dst v V) T Y X U a) h':=λc=>by
 have j:=qM e (by simp);obtain⟨ι',u,w',es,h1,d,k,l,m,n⟩:=Dj (main:=main) (cs:=cs) S H b g (.inr j) rfl (VOk.ext S (Du f F S H.U9 e)) trivial c;exact⟨ι',_,w',es,h1,d,k,H.finish b (d.ext c) l,m,n⟩
theorem YA(f:Of K P E)(F:Fits P E)(S:Sat K Z h w)(H:pG Z x V T Y i X U W)(b:Y[i]? =some o)(g:Region.wanted o (yielded Y W.tmps)=true)
 {l:List (AV×AH)}(e:fQ o.op E V h=some (.alts l)):∃p∈l,GoTo P main K Z h w W cs (λι' a=>iC ι' x (fin x o.dst p.1 V) T Y X U a) p.2:=by
 have j:=qM e (by simp);obtain⟨p,hp,k⟩:=Du f F S H.U9 e;refine⟨p,hp,λc=>?_⟩;obtain⟨ι',u,w',es,h1,d,m,n,q,r⟩:=Dj (main:=main) (cs:=cs) S H b g (.inr j) rfl (VOk.ext S k) trivial c;exact⟨ι',_,w',es,h1,d,m,H.finish b (d.ext c) n,q,r⟩
theorem Dv(a:Of K P E)(F:Fits P E)(FF:eU P E)(S:Sat K Z h w)(H:pG Z x V T Y i X U W)(b:Y[i]? =some o)(d:Region.wanted o (yielded Y W.tmps)=true)
 {g:FuncId}{args:List AV}(e:fQ o.op E V h=some (.call g args)){c:Code}{n:Nat}{f:List ResultVar}{ex:EX}(j:E.ft.get g=some ⟨some c,n,f,ex⟩):
 ∃vs:Array Value,dS Z args vs.toList∧stepG P main (G W cs) w= .go (G (Frame.enter P g vs .normal) (W::cs)) w #[]:=by
 have k:=qM e (by simp);obtain⟨vs,h1,l⟩:=Du a F S H.U9 e;exact⟨vs,h1,Nv FF H b d (.inr k) (l #[]) j⟩
theorem SA(b:Of K P E)(F:Fits P E)(FF:eU P E)(S:Sat K Z h w)(H:pG Z x V T Y i X U W)(c:Y[i]? =some o)(j:Region.wanted o (yielded Y W.tmps)=true)
 {g:FuncId}{args:List AV}(e:fQ o.op E V h=some (.call g args)){n:Nat}{d:List ResultVar}{ex:EX}(k:E.ft.get g=some ⟨none,n,d,ex⟩){v:AV}{h':AH}(l:PN ex args h=some (.val v h')):
 GoTo P main K Z h w W cs (λι' a=>iC ι' x (fin x o.dst v V) T Y X U a) h':=λf=>by
 have m:=qM e (by simp);obtain⟨vs,h1,p⟩:=Du b F S H.U9 e;obtain⟨ι',u,w',es,q,g2,r,s,t,y⟩:=Dj (main:=main) (cs:=cs) S H c j (.inr m) (p #[]) (FF.ext g n d ex k K Z h w args vs v h' b S h1 l) trivial f;exact⟨ι',_,w',es,q,g2,r,H.finish c (g2.ext f) s,t,y⟩
theorem KI(a:Of K P E)(F:Fits P E)(S:Sat K Z h w)(H:pG Z x V T Y i X U W)(b:Y[i]? =some o)(c:Region.wanted o (yielded Y W.tmps)=true)
 {id:Nat}{args:List AV}(e:fQ o.op E V h=some (.yield id args)):Qh P main K Z w W cs id args h:=by
 have d:=qM e (by simp);obtain⟨p,vs,h1,f,g⟩:=Du a F S H.U9 e;exact Yr S H b c (.inr d) h1 f (g #[])
theorem aat(j:Of K P E)(F:Fits P E)(S:Sat K Z h w)(H:pG Z x V T Y i X U W)(g:Y[i]? =some o)(k:Region.wanted o (yielded Y W.tmps)=true)(hr:x.round=none)
 {a:AD}(e:fQ o.op E V h=some (.yU a)):GoTo P main K Z h w W cs (λι' c=>iC ι' x (fin x o.dst iw V) (a::T) Y X U c) h:=λ_=>by
 obtain⟨d,h1,l⟩:=Du j F S H.U9 e;have f:W.roundOf=none:=by have:=H.round;rw[hr]at this;exact this
 have m:=jQ H.kind;have b:=h1 #[];simp only[gK]at b;refine⟨Z,({ W with defers:=d::W.defers }:Frame).finish undef,w,#[],?_,Grow.refl _ _,S,?_,iG.refl w,rfl⟩
 .rw[oQ H g k (.inl f)]
  unfold stepG.apply;simp only[if_true,b,m];simp[GStep.after,G,seen]
 .have n:pG Z x V (a::T) Y i X U { W with defers:=d::W.defers }:=⟨H.fn,H.tm,H.todo,⟨d,W.defers,rfl,l,H.ds⟩,H.mode,H.kind,H.round⟩
  exact n.finish g (Ext.refl Z) lZ
end
end
section
open Go.Conc (G)
variable{jump:Option Code}
section
variable{P:Program}{main:Bool}{K:Ctx}{Z:Nm}{h:AH}{w:World}{E:Env}
def UE(P:Program)(main:Bool)(K:Ctx)(Z:Nm)(h:AH)(w:World)(fr:Frame)(cs:List Frame)(v:AV)(h':AH):Prop:=
 ∃u w' es,stepG P main (G fr cs) w=GStep.after es (doReturn P main fr cs none u w')∧Sat K Z h' w'∧RV Z v u∧iG K w w' es∧deafBehind h.df es=h'.df∧h'.nx=h.nx
def yg(P:Program)(main:Bool)(K:Ctx)(Z:Nm)(h:AH)(w:World)(fr:Frame)(cs:List Frame):A1->Prop
 | .go f' h'=>GoTo P main K Z h w fr cs (λι' a=>RF ι' f' a) h'
 | .alts l=>∃p∈l,GoTo P main K Z h w fr cs (λι' a=>RF ι' p.1 a) p.2
 | .call f' d g args h'=>abU P main K Z h w fr cs (λι' a=>Waits ι' f' d a∧a.mode= .run) g args .normal h'
 | .dcall f' g args h'=>abU P main K Z h w fr cs (λι' a=>RF ι' f' a∧a.mode= .returning) g args .deferred h'
 | .round f' d id args h'=>h'=h∧Qh P main K Z w fr cs id args h∧Waits Z f' d fr
 | .drawn x tm ops k ds h'=>h'=h∧∃t d k',stepG P main (G fr cs) w= .go (G { fr with todo:= .inRegion ops (Region.linearise .any ops t)::k' } cs) { w with drawn:=d } #[]∧Gy Z k k'∧
  iC Z x tm ds ops (Region.linearise .any ops t) k' { fr with todo:= .inRegion ops (Region.linearise .any ops t)::k' }
 | .ret v h'=>UE P main K Z h w fr cs v h'
 | .stop=>True
section
variable{x:AX}{W:Tr AV}{X:List AI}{V:List AD}{Y:Frame}{cs:List Frame}
theorem RF.runs(R:RF Z ⟨x,W,X,V,false⟩ Y):stepG P main (G Y cs) w=stepG.exec P main true Y cs none w:=by
 have a:Y.mode= .run:=by have:=R.mode;simpa using this
 simp[G,stepG,a]
theorem RF.to(R:RF Z ⟨x,W,X,V,false⟩ Y){a:List AI}{l:List Item}(b:Gy Z a l):RF Z ⟨x,W,a,V,false⟩ { Y with todo:=l }:=
 ⟨R.fn,R.tm,b,R.ds,R.mode,R.kind,R.round⟩
theorem kU(S:Sat K Z h w)(R:RF Z ⟨x,W,X,V,false⟩ Y){a:List AI}{l:List Item}(b:Gy Z a l)(c:stepG P main (G Y cs) w= .go (G { Y with todo:=l } cs) w #[]):
 yg P main K Z h w Y cs (.go ⟨x,W,a,V,false⟩ h):=λ_=>
 ⟨Z,_,w,#[],c,Grow.refl _ _,S,R.to b,iG.refl w,rfl⟩
def Eu(P:Program)(main:Bool)(Y:Frame)(cs:List Frame)(w:World)(jump:Option Code):GStep:=
 match Y.roundOf with
 | none => if jump matches none | some .ret then .go (G { Y with mode := .returning } cs) w else .ended (.stuck "exit, goto: no such block or label" (Y.pos P)) w
 |some l=>
  let(r,es):=(Instr.endRound l jump).runT P w #[]
  GStep.after (seen P Y.fn es) <| match r with
  | .ok v w=>doReturn P main Y cs none v w
  | .halt _ w => .ended (.stuck "range over a function: no such loop" (Y.pos P)) w
theorem FM(S:Sat K Z h w)(R:RF Z ⟨x,W,X,V,false⟩ Y){r:A1}(e:mP x W X V h jump=some r)(s:stepG P main (G Y cs) w=Eu P main Y cs w jump):
 yg P main K Z h w Y cs r:=by
 unfold mP at e;have hr:=R.round;split at e
 .rename_i m
  rw[m]at hr;have hr:Y.roundOf=none:=hr;split at e
  all_goals first
   |(cases e;done)
   |(cases e
     refine λ_=>⟨Z,{ Y with mode:= .returning },w,#[],?_,Grow.refl _ _,S,⟨R.fn,R.tm,R.todo,R.ds,rfl,R.kind,R.round⟩,iG.refl w,rfl⟩;rw[s];unfold Eu;rw[hr];rfl)
 .rename_i l m
  rw[m]at hr;obtain⟨p,hp,hr⟩:=hr;have hr:Y.roundOf=some p.1:=hr;split at e
  .rename_i st O fn nt t ps a b d c
   cases e;obtain⟨z,ob,g,hb1,hb2,hb3,hb4,hb5⟩:=S.at c trivial;obtain rfl:p=z:=by rw[hp]at g;exact aN g
   obtain⟨q,A,L,rfl,e1,e2,B,C,D,F,H,I⟩:=hb5;have n:RO K.P Z p.2 (.loop (cond jump.isNone .ready .done) jump fn nt t ps a b d) (.loop { L with state:=if jump.isNone then .ready else .done,pending:=jump }):=
    ⟨q,A,_,rfl,by cases jump<;>rfl,rfl,B,C,D,F,H,I⟩
   have j:=kS (P:=P) S hp c trivial hb4 (by simp) n rfl;obtain⟨ι',w',es,J,g2,u,M,Q⟩:=j (λi h1 N=>by rw[AH.sD]at N;omega);have o:ι'=Z:=by
    funext i;refine g2.same i ?_;rw[AH.sD];omega
   subst o;have k:ak P (Instr.endRound p.1 jump) w (.bool jump.isNone) w' ([⟨.obj p.1,false,false⟩]++es):=by
    unfold Instr.endRound;refine ak.bind (w1:=w) (e1:=[⟨.obj p.1,false,false⟩]) (e2:=es) (a:=L) ?_ ?_
    .unfold Instr.getLoop
     exact ak.bind (w1:=w) (e2:=[]) (e1:=[⟨.obj p.1,false,false⟩]) (ak.getObj (P:=P) hb4 (by simp)) (ak.pure _)
    .have:=ak.bind (e2:=[]) J (ak.pure (P:=P) (w:=w') (Value.bool jump.isNone)) (f:=λ_=>Pure.pure (Value.bool jump.isNone))
     simpa using this
   have v:kP K w w' ([⟨.obj p.1,false,false⟩]++es):=by
    have h0:kP K w w [(⟨.obj p.1,false,false⟩:Event)]:=kP.refl K w (by intro e y;simp only[bY]at y;subst y;exact⟨hb1,hb2,hb3,rfl⟩);exact h0.trans M
   refine⟨.bool jump.isNone,w',seen P Y.fn ([(⟨.obj p.1,false,false⟩:Event)]++es).toArray,?_,u,by unfold RV;rfl,S.FU u v Y.fn,by rw[nY v.evs,AH.wV],AH.sD⟩;rw[s];unfold Eu;rw[hr];have:=k #[];simp only[gK]at this;simp only[this]
  .cases e
end
end
end
section
open Go.Conc (G)
variable{nt:Nat}{tmps:Array Value}
section
variable{P:Program}{Z:Bool}{K:Ctx}{Y:Nm}{h:AH}{w:World}{E:Env}
variable{x:AX}{W:Tr AV}{X:List AI}{V:List AD}{fr:Frame}{cs:List Frame}
theorem O8(F:Fits P E)(n:Of K P E)(S:Sat K Y h w)(k:RT Y nt W tmps):∀{d:List ResultVar} {l:List AV},J9 E d W h=some l->
 ∃vs es,ak P (d.mapM λr=>match r with | .tmp t=>(Pure.pure (tmps.getD t undef):Sem Value)| .cell a t=>do loadVar t (← asAddr (tmps.getD a undef))) w vs w es∧dS Y l vs∧∀e∈es,zM K w.heap.size e:=by
 intro d;induction d with
 |nil=>intro l e;cases e;exact⟨[],[],ak.pure _,dG,by simp⟩
 |cons r d m=>
  intro l e;cases r with
  |tmp t=>
   simp only[J9]at e;split at e
   .rename_i o b
    cases e;obtain⟨vs,es,h1,g,i⟩:=m b;refine⟨_::vs,es,?_,cO (k.ev { (default:Frame)with tmps:=tmps } rfl (.tmp t)) g,i⟩;rw[List.mapM_cons];refine ak.aG (ak.pure _) ?_;have:=ak.bind h1 (ak.pure (P:=P) (w:=w) (tmps.getD t undef::vs)) (f:=λx=>Pure.pure (tmps.getD t undef::x));rw[dD]at this;exact this
   .cases e
  |cell a t=>
   simp only[J9]at e;split at e
   .rename_i id off hv
    split at e
    .rename_i v q
     split at e
     .rename_i o b
      cases e;obtain⟨vs,es,h1,g,i⟩:=m b;have hp:=k.ev { (default:Frame)with tmps:=tmps } rfl (.tmp a);rw[hv]at hp;obtain⟨p,hp,c⟩:=jF hp;have c:tmps.getD a undef= .pointer (some ⟨p.1,off,none⟩):=c;obtain⟨u,j,s,g2,y⟩:=Gr S n F hp q;refine⟨u::vs,j++es,?_,cO g2 g,λe z=>(bQ.1 z).elim (y e) (i e)⟩;rw[List.mapM_cons];refine ak.bind (w1:=w) (a:=u) ?_ ?_
      .simp only[c]
       refine ak.aG (a:=⟨p.1,off,none⟩) ?_ s;unfold asAddr;exact ak.pure _
      .have:=ak.bind h1 (ak.pure (P:=P) (w:=w) (u::vs)) (f:=λx=>Pure.pure (u::x))
       rw[dD]at this;exact this
     .cases e
    .cases e
   .cases e
def ZR:List AV->AV
 |[v]=>v
 |l=> .gI l
theorem J8(F:Fits P E)(j:Of K P E)(S:Sat K Y h w)(k:RT Y nt W tmps){fn:Func}{d:List ResultVar}(c:fn.results.toList=d){l:List AV}(e:J9 E d W h=some l):
 ∃v es,ak P (results fn tmps) w v w es∧RV Y (ZR l) v∧∀e∈es,zM K w.heap.size e:=by
 obtain⟨vs,es,h1,g,m⟩:=O8 F j S k e;refine⟨if h:vs.toArray.size=1 then vs.toArray[0]else .tuple vs.toArray,es,?_,?_,m⟩
 .unfold results
  have n:ak P (fn.results.mapM λ
   | .tmp t=>(Pure.pure (tmps.getD t undef):Sem Value)
   | .cell a t=>do loadVar t (← asAddr (tmps.getD a undef))) w vs.toArray w es:=by
   rw[Array.mapM_eq_mapM_toList,c];have:=ak.bind h1 (ak.pure (P:=P) (w:=w) vs.toArray) (f:=λx=>Pure.pure x.toArray);rw[dD]at this;exact this
  have:=ak.bind n (ak.pure (P:=P) (w:=w) (if h:vs.toArray.size=1 then vs.toArray[0]else Value.tuple vs.toArray)) (f:=λvs=>Pure.pure (if h:vs.size=1 then vs[0]else Value.tuple vs));rw[dD]at this;exact this
 .cases l with
  |nil=>
   rw[bU g];unfold RV;exact⟨#[],rfl,dG⟩
  |cons a l=>
   obtain⟨v,r,rfl,i,g2⟩:=bf g;cases l with
   |nil=>
    rw[bU g2];exact i
   |cons b l=>
    obtain⟨o,p,rfl,q,s⟩:=bf g2;have:¬(v::o::p).toArray.size=1:=by simp
    rw[dif_neg this];show RV Y (.gI (a::b::l)) _;unfold RV;exact⟨_,rfl,cO i (cO q s)⟩
theorem CP(R:RF Y ⟨x,W,X,V,true⟩ fr):stepG P Z (G fr cs) w=unwind P Z fr cs none w:=by
 have a:fr.mode= .returning:=by have:=R.mode;simpa using this
 simp[G,stepG,a]
theorem qX{d:Deferred}{g:FuncId}{c:Array Value}(i:d.target= .fn (.func g) c){s:Sem Next}(k:(callFunc g (d.args++c)).runT P w #[]=s.runT P w #[]){nx:Next}{w':World}{es:List Event}(hr:ak P s w nx w' es):
 callDeferred P fr cs none d w=GStep.after (seen P fr.fn es.toArray) (match nx with
  | .enter f args=> .go (G (Frame.enter P f args .deferred) (fr::cs)) w'
  | .value _=> .go (G fr cs) w'
  | .skip=> .go (G fr cs) w'
  |nx=>match callDeferred P fr cs none d w with | .go g w es=> .go g w es|s=>s)∨(¬∃v,nx= .value v)∧nx≠.skip∧∀f a,nx≠.enter f a:=by
 by_cases j:(¬∃v,nx= .value v)∧nx≠.skip∧∀f a,nx≠.enter f a
 .exact .inr j
 .left
  have b:=hr #[];simp only[gK]at b;have e:(invoke d.target d.args).runT P w #[]=(.ok nx w',es.toArray):=by
   rw[i];show(callFunc g (d.args++c)).runT P w #[]=_;rw[k,b]
  unfold callDeferred;rw[ah (by rw[i];simp)];simp only[e];cases nx with
  |value v=>rfl
  |skip=>rfl
  |enter f a=>rfl
  |_=>exact aX ⟨by simp,by simp,by simp⟩ j
theorem aed(hP:Of K P E)(F:Fits P E)(FF:eU P E)(S:Sat K Y h w)(R:RF Y ⟨x,W,X,V,true⟩ fr){r:A1}(e:OG E x W X V h=some r):yg P Z K Y h w fr cs r:=by
 have hm:fr.mode= .returning:=by have:=R.mode;simpa using this
 unfold OG at e;split at e
 .rename_i _ d M
  obtain⟨d',s,hd,h1,N⟩:=R.ds;split at e
  .rename_i O
   split at e
   .rename_i id i
    split at e
    .rename_i q
     cases e;unfold RD at h1;rw[O]at h1;obtain⟨p,hp,rfl⟩:=h1 id i;obtain⟨p',ob,A,hb1,hb2,hb3,hb4,hb5⟩:=S.at q trivial;obtain rfl:p=p':=by rw[hp]at A;exact aN A
     have hb5:ob= .deferred (some []):=hb5;subst hb5;have B:=kS (P:=P) S hp q trivial hb4 (by simp) (o:= .yU true) (ob:= .deferred none) rfl rfl;intro k;obtain⟨ι',w',es,C,g2,t,L,Q⟩:=B k;have D:ak P (Instr.takeDeferred p.1) w [] w' ([(⟨.obj p.1,false,false⟩:Event)]++es):=by
      unfold Instr.takeDeferred;refine ak.bind (w1:=w) (e1:=[⟨.obj p.1,false,false⟩]) (e2:=es) (ak.getObj (P:=P) hb4 (by simp)) ?_;have:=ak.bind (e2:=[]) C (ak.pure (P:=P) (w:=w') ([]:List Deferred)) (f:=λ_=>Pure.pure ([]:List Deferred));simpa using this
     have H:kP K w w' ([(⟨.obj p.1,false,false⟩:Event)]++es):=
      (kP.refl K w (by intro e he;simp only[bY]at he;subst he;exact⟨hb1,hb2,hb3,rfl⟩):kP K w w [(⟨.obj p.1,false,false⟩:Event)]).trans L
     refine⟨ι',{ fr with defers:=s },w',seen P fr.fn ([(⟨.obj p.1,false,false⟩:Event)]++es).toArray,?_,g2,t,?_,S.FU t H fr.fn,by rw[nY H.evs,AH.wV]⟩
     .rw[CP R]
      unfold unwind;rw[hd];have:=D #[];simp only[gK]at this;simp only[this];simp[GStep.after,G]
     .have m:=g2.ext k
      exact⟨R.fn,R.tm.mono m,R.todo.mono m,N.mono m,R.mode,R.kind,qZ m R.round⟩
    .cases e
   .cases e
  .rename_i g first cap O
   unfold RD at h1;rw[O]at h1;obtain⟨y,as,c,T,U,ha3,rfl⟩:=h1;have R':RF Y ⟨x,W,X,M,true⟩ { fr with defers:=s }:=⟨R.fn,R.tm,R.todo,N,R.mode,R.kind,R.round⟩;have i:dS Y (first++d.args++cap) ((y++as).toArray++c).toList:=by
    simp only[dP];exact(T.append U).append ha3
   have hu:stepG P Z (G fr cs) w=callDeferred P { fr with defers:=s } cs none { target:= .fn (.func g) c,args:=(y++as).toArray } w:=by
    rw[CP R];unfold unwind;rw[hd]
   split at e
   .rename_i c0 n z ex I
    cases e;obtain⟨fn,k1,k2,_,_,k5⟩:=FF.code g c0 n z ex I;have hr:=sN (w:=w) (vs:=(y++as).toArray++c) k1 (by rw[k2];rfl) k5;rcases qX (cs:=cs) (fr:={ fr with defers:=s }) (d:={ target:= .fn (.func g) c,args:=(y++as).toArray }) rfl rfl hr with j|j
    .intro _
     refine⟨Y,{ fr with defers:=s },(y++as).toArray++c,w,#[],?_,Grow.refl _ _,S,i,⟨R',hm⟩,iG.refl w,rfl⟩;rw[hu,j];simp[GStep.after,seen]
    .exact aX rfl (j.2.2 _ _)
   .rename_i n z ex I
    split at e
    .rename_i v h' hx
     cases e;intro k;obtain⟨ι',w',nx,es,C,g2,t,L,Q⟩:=FF.ext g n z ex I K Y h w _ ((y++as).toArray++c) v h' hP S i hx k;rcases qX (cs:=cs) (fr:={ fr with defers:=s }) (d:={ target:= .fn (.func g) c,args:=(y++as).toArray }) rfl rfl C with j|j
     .have m:=g2.ext k
      refine⟨ι',{ fr with defers:=s },w',seen P fr.fn es.toArray,?_,g2,t,⟨R.fn,R.tm.mono m,R.todo.mono m,N.mono m,R.mode,R.kind,qZ m R.round⟩,(Q fr.fn).1,(Q fr.fn).2⟩;rw[hu,j];cases nx with
      |value u=>simp[GStep.after]
      |skip=>simp[GStep.after]
      |_=>exact L.elim
     .cases nx with
      |value u=>exact aX ⟨_,rfl⟩ j.1
      |skip=>exact aX rfl j.2.1
      |_=>exact L.elim
    .cases e;trivial
    .cases e
   .cases e
  .cases e
 .have hds:fr.defers=[]:=R.ds
  split at e
  .rename_i c n z ex I
   obtain⟨fn,k1,k2,_,k4,_⟩:=FF.code x.fn c n z ex I;have key:∀{l:List AV},J9 E z W h=some l->UE P Z K Y h w fr cs (ZR l) h:=by
    intro l J;obtain⟨v,es,C,g2,t⟩:=J8 F hP S R.tm k4 J;refine⟨v,w,seen P fr.fn es.toArray,?_,S,g2,S.FU S (kP.refl K w t) fr.fn,nY t h.df,rfl⟩;rw[CP R];unfold unwind;rw[hds];have:=C #[];simp only[gK]at this;have hfn:P.funcs[fr.fn]? =some fn:=by rw[R.fn];exact k1
    simp only[hm,hfn,this]
   cases J:J9 E z W h with
   |none=>rw[J]at e;cases e
   |some l=>
    rw[J]at e;have:=key J
    match l,e,this with
    |[],e,this=>cases e;exact this
    |[v],e,this=>cases e;exact this
    |a::b::l,e,this=>cases e;exact this
  .cases e
end
end
section
open Go.Conc (G)
variable{g:FuncId}{j:Nat}{ops:Array Oper}
section
variable{P:Program}{Z:Bool}{K:Ctx}{Y:Nm}{h:AH}{w:World}{E:Env}
variable{x:AX}{W:Tr AV}{U:List AI}{T:List AD}{X:Frame}{V:List Frame}
theorem iC.rf{k:List AI}{k':List Item}{U:List Oper}(H:iC Y x W T ops ((List.range ops.size).drop j) k' X)(a:Gy Y k k')(b:U=ops.toList.drop j):RF Y ⟨x,W,NM ops U k,T,false⟩ X:=
 ⟨H.fn,H.tm,by rw[H.todo];exact⟨_,_,rfl,⟨j,b,rfl⟩,a⟩,H.ds,by simpa using H.mode,H.kind,H.round⟩
theorem abn(l:Of K P E)(F:Fits P E)(FF:eU P E)(S:Sat K Y h w){b:List Oper}{k:List AI}{k':List Item}(H:pG Y x W T ops j ((List.range ops.size).drop (j+1)) k' X){o:Oper}(d:ops[j]? =some o)
 (a:b=ops.toList.drop (j+1))(m:Gy Y k k')(p:Region.wanted o (yielded ops X.tmps)=true){args:List AV}(q:fQ o.op E W h=some (.call g args)){r:A1}(e:Ll E x W o.dst (NM ops b k) T h g args=some r):yg P Z K Y h w X V r:=by
 unfold Ll at e;split at e
 .rename_i c n y ex f
  cases e;obtain⟨vs,h1,z⟩:=Dv (main:=Z) (cs:=V) l F FF S H d p q f;exact λ_=>⟨Y,X,vs,w,#[],z,Grow.refl _ _,S,h1,⟨λι' v u s A=>(H.finish d s A).rf (m.mono s) a,H.mode⟩,iG.refl w,rfl⟩
 .rename_i n y ex f
  unfold YN at e;split at e
  .rename_i v h' B
   cases e;intro t;obtain⟨ι',i,w',es,C,g2,D,G,I⟩:=SA (main:=Z) (cs:=V) l F FF S H d p q f B t;exact⟨ι',i,w',es,C,g2,D,G.rf (m.mono (g2.ext t)) a,I⟩
  .cases e;trivial
  .cases e
 .cases e
theorem aeA(A:Of K P E)(F:Fits P E)(FF:eU P E)(S:Sat K Y h w){d:List Oper}{k:List AI}{k':List Item}(H:pG Y x W T ops j ((List.range ops.size).drop (j+1)) k' X){o:Oper}(m:ops[j]? =some o)
 (b:d=ops.toList.drop (j+1))(B:Gy Y k k')(C:Region.wanted o (yielded ops X.tmps)=true){r:A1}(e:opA E x W (NM ops d k) T h o=some r):yg P Z K Y h w X V r:=by
 unfold opA at e;split at e
 .rename_i v D
  cases e;intro i;obtain⟨ι',c,w',es,n,g2,s,t,y⟩:=quiet_step (main:=Z) (cs:=V) A F S H m C D i;exact⟨ι',c,w',es,n,g2,s,t.rf (B.mono (g2.ext i)) b,y⟩
 .cases z:fQ o.op E W h with
  |none=>rw[z]at e;cases e
  |some q=>
   rw[z]at e;cases q with
   |val v h'=>
    cases e;intro i;obtain⟨ι',c,w',es,n,g2,s,t,y⟩:=Fq (main:=Z) (cs:=V) A F S H m C z i;exact⟨ι',c,w',es,n,g2,s,t.rf (B.mono (g2.ext i)) b,y⟩
   |call g args=>exact abn A F FF S H m b B C z e
   |yield id args=>
    cases e;exact⟨rfl,KI A F S H m C z,λι' v u G D=>(H.finish m G D).rf (B.mono G) b⟩
   |yU a=>
    simp only[Xm]at e;split at e
    .rename_i hr
     cases e;intro i;obtain⟨ι',c,w',es,n,g2,s,t,y⟩:=aat (main:=Z) (cs:=V) A F S H m C hr z i;exact⟨ι',c,w',es,n,g2,s,t.rf (B.mono (g2.ext i)) b,y⟩
    .cases e
   |alts l=>
    cases e;obtain⟨p,hp,I⟩:=YA (main:=Z) (cs:=V) A F S H m C z;refine⟨(⟨x,fin x o.dst p.1 W,NM ops d k,T,false⟩,p.2),List.mem_map_of_mem (f:=λp=>((⟨x,fin x o.dst p.1 W,NM ops d k,T,false⟩:AF),p.2)) hp,λi=>?_⟩;obtain⟨ι',c,w',es,n,g2,s,t,y⟩:=I i;exact⟨ι',c,w',es,n,g2,s,t.rf (B.mono (g2.ext i)) b,y⟩
   |stop=>cases e;trivial
theorem drop_cons{o:Oper}{a:List Oper}(e:o::a=ops.toList.drop j):ops[j]? =some o∧a=ops.toList.drop (j+1)∧(List.range ops.size).drop j=j::(List.range ops.size).drop (j+1):=by
 have hj:j<ops.toList.length:=by
  rcases aT j ops.toList.length with h|h
  .exact h
  .rw[gG h]at e;cases e
 rw[bn hj]at e;injection e with e1 e2;refine⟨?_,e2,?_⟩
 .rw[e1];simp at hj ⊢
 .have b:j<(List.range ops.size).length:=by simpa using hj
  rw[bn b];simp
theorem Vb(m:Of K P E)(F:Fits P E)(FF:eU P E)(S:Sat K Y h w){ops:Array Oper}{o:Oper}{b:List Oper}{k:List AI}(R:RF Y ⟨x,W,.inRegion ops (o::b)::k,T,false⟩ X)
 {r:A1}(e:qx E x W T h k ops o b=some r):yg P Z K Y h w X V r:=by
 obtain⟨i,k',g,⟨j,hj,rfl⟩,l⟩:=R.todo;obtain⟨d,a,hr⟩:=drop_cons hj;rw[hr]at g;have H:pG Y x W T ops j ((List.range ops.size).drop (j+1)) k' X:=⟨R.fn,R.tm,g,R.ds,by simpa using R.mode,R.kind,R.round⟩;unfold qx at e;split at e
 .rename_i f
  exact aeA m F FF S H d a l (jY R.tm f) e
 .rename_i f
  cases e;intro _;refine⟨Y,_,w,#[],y5 H (λn c=>?_),Grow.refl _ _,S,(H.finish d (Ext.refl Y) lZ).rf l a,iG.refl w,rfl⟩;rw[d]at c;cases c;exact jY R.tm f
 .cases e
theorem PS(S:Sat K Y h w)(R:RF Y ⟨x,W,U,T,false⟩ X){ps:Array Tmp}{a b:Code}{d:Nat}{h1:AH}{mark:List AD}
 (e:(match x.round with
  |some l=>(match h.obj l with | .loop _ _ _ _ _ _ _ _ d=>some (d,h,[])|_=>none)
  |none=>some (h.nx,h.new (.yU false),[AD.mk .pF [.ptr h.nx 0]]))=some (d,h1,mark)):
 Free Y h.nx (h1.new (.loop .ready none x.fn x.nt W ps.toList a b d)).nx->∃ι' w' l mk es,ak P (Instr.enterLoop X.fn X.tmps ps a b X.roundOf) w (l,mk) w' es∧Grow Y ι' h.nx (h1.new (.loop .ready none x.fn x.nt W ps.toList a b d)).nx∧
  Sat K ι' (h1.new (.loop .ready none x.fn x.nt W ps.toList a b d)) w'∧kP K w w' es∧(h1.new (.loop .ready none x.fn x.nt W ps.toList a b d)).df=h.df∧Zb ι' mark mk∧∃p,ι' h1.nx=some p∧p.1=l:=λu=>by
 have hr:=R.round;have i:∀{c:Nm} {h1:AH} {w1:World} (r:Sat K c h1 w1) (k:c h1.nx=none) {q:Nat×Nat} (s:c d=some q) (y:Ext Y c),
  Sat K (upd c h1.nx (w1.heap.size,0)) (h1.new (.loop .ready none x.fn x.nt W ps.toList a b d)) { w1 with heap:=w1.heap.push (.loop { state:= .ready,pending:=none,fn:=X.fn,tmps:=X.tmps,params:=ps,assign:=a,body:=b,defers:=q.1 }) }:=by
  intro c h1 w1 r k q s y;refine r.Fh k (cap:=0) ?_;have f:=Am (p:=(w1.heap.size,0)) k;exact⟨q,f _ _ s,_,rfl,rfl,rfl,R.fn,(R.tm.mono y).mono f,rfl,rfl,rfl,rfl⟩
 split at e
 .rename_i l v
  rw[v]at hr;obtain⟨p,hp,hr⟩:=hr;split at e
  .rename_i st G fn nt t A H b' I m
   cases e;obtain⟨B,ob,n,hb1,hb2,hb3,hb4,hb5⟩:=S.at m trivial;obtain rfl:p=B:=by rw[hp]at n;exact aN n
   obtain⟨q,s,L,rfl,e1,e2,J,M,N,O,Q,C⟩:=hb5;have g:Y h.nx=none:=u _ (aj _) (by rw[AH.mZ];omega);refine⟨_,_,w.heap.size,[],[⟨.obj p.1,false,false⟩],?_,by rw[AH.mZ];exact Grow.upd,i S g s (Ext.refl Y),?_,AH.yM,rfl,(w.heap.size,0),pI _ _ _,rfl⟩
   .have hr:X.roundOf=some p.1:=hr
    rw[hr];unfold Instr.enterLoop;refine ak.bind (w1:=w) (e1:=[⟨.obj p.1,false,false⟩]) (e2:=[]) (a:=L) ?_ ?_
    .unfold Instr.getLoop
     exact ak.bind (w1:=w) (e2:=[]) (e1:=[⟨.obj p.1,false,false⟩]) (ak.getObj (P:=P) hb4 (by simp)) (ak.pure _)
    .rw[C];exact ak.aG (ak.pure _) (ak.aG (ak.new _) (ak.pure _))
   .have h0:kP K w w [(⟨.obj p.1,false,false⟩:Event)]:=kP.refl K w (by intro e z;simp only[bY]at z;subst z;exact⟨hb1,hb2,hb3,rfl⟩)
    have:=h0.trans (kP.Fh (w:=w) (.loop { state:= .ready,pending:=none,fn:=X.fn,tmps:=X.tmps,params:=ps,assign:=a,body:=b,defers:=q.1 }) K);simpa using this
  .cases e
 .rename_i v
  rw[v]at hr;have hr:X.roundOf=none:=hr;cases e;have g:Y h.nx=none:=u _ (aj _) (by rw[AH.mZ,AH.mZ];omega);have r:=S.Fh g (o:= .yU false) (ob:= .deferred (some [])) (cap:=0) rfl;have f:Ext Y (upd Y h.nx (w.heap.size,0)):=Am g;have j:(upd Y h.nx (w.heap.size,0)) (h.new (.yU false)).nx=none:=by
   have e1:(h.new (.yU false)).nx=h.nx+1:=AH.mZ;rw[upd_ne (by omega)];exact u _ (by omega) (by have:((h.new (.yU false)).new (.loop .ready none x.fn x.nt W ps.toList a b h.nx)).nx=(h.new (.yU false)).nx+1:=AH.mZ
                                                                                               omega)
  have D:=i r j (pI Y h.nx (w.heap.size,0)) f;refine⟨_,_,w.heap.size+1,[{ target:= .collected w.heap.size,args:=#[] }],[],?_,?_,D,?_,by rw[AH.yM,AH.yM],⟨_,[],rfl,?_,rfl⟩,_,pI _ _ _,?_⟩
  .rw[hr]
   unfold Instr.enterLoop;refine ak.aG (ak.new _) ?_;refine ak.aG (ak.pure _) ?_;refine ak.aG (ak.new _) ?_;simp only[oP];exact ak.pure _
  .have F:Grow Y (upd Y h.nx (w.heap.size,0)) h.nx (h.new (.yU false)).nx:=by rw[AH.mZ];exact Grow.upd
   have g2:∀p,Grow (upd Y h.nx (w.heap.size,0)) (upd (upd Y h.nx (w.heap.size,0)) (h.new (.yU false)).nx p) (h.new (.yU false)).nx ((h.new (.yU false)).new (.loop .ready none x.fn x.nt W ps.toList a b h.nx)).nx:=λp=>by
    rw[AH.mZ (h:=h.new (.yU false))];exact Grow.upd
   exact F.trans (g2 _)
  .have h0:=kP.Fh (w:=w) (.deferred (some [])) K
   have:=h0.trans (kP.Fh (w:={ w with heap:=w.heap.push (.deferred (some [])) }) (.loop { state:= .ready,pending:=none,fn:=X.fn,tmps:=X.tmps,params:=ps,assign:=a,body:=b,defers:=w.heap.size }) K);simpa using this
  .show RD _ ⟨.pF,[.ptr h.nx 0]⟩ _
   unfold RD;intro id hid;simp only[dM,AV.ptr.injEq,iM]at hid;subst hid;exact⟨(w.heap.size,0),Am j _ _ (pI _ _ _),rfl⟩
  .simp
end
end
section
open Go.Conc (G)
variable{f:AF}
section
variable{P:Program}{Z:Bool}{K:Ctx}{Y:Nm}{h:AH}{w:World}{E:Env}
variable{x:AX}{U:Tr AV}{W:List AI}{T:List AD}{X:Frame}{V:List Frame}
theorem OM(FF:eU P E)(S:Sat K Y h w){k:List AI}{g:Operand}{ps:Array Tmp}{a b:Code}(R:RF Y ⟨x,U,.code (.rangeFunc g ps a b)::k,T,false⟩ X)
 {r:A1}(e:ru E x U T h k g ps a b=some r):yg P Z K Y h w X V r:=by
 obtain⟨i,k',ht,rfl,F⟩:=R.todo;have m:X.mode= .run:=by simpa using R.mode
 unfold ru at e;split at e
 .rename_i d h1 mark he
  split at e
  .rename_i i first cap hv
   split at e
   .rename_i c n rs ex hg
    cases e;intro M;obtain⟨ι',w',l,mk,es,h2,N,O,Q,h6,h7,p,hp,rfl⟩:=PS (P:=P) (ps:=ps) (a:=a) (b:=b) S R he M;have A:=N.ext M;have q:=R.tm.ev X rfl g;rw[hv]at q;obtain⟨s,j,q,H,I⟩:=yP q;obtain⟨fn,k1,k2,_,_,k5⟩:=FF.code i c n rs ex hg;let f:Frame:={ X with todo:= .inRangeFunc p.1::k',defers:=mk++X.defers };have t:dS ι' (first++[.yield h1.nx]++cap) ((s++#[Value.func (.yield p.1) #[] #[]])++j).toList:=by
     simp only[dP];refine((H.mono A).append (cO ?_ dG)).append (I.mono A);unfold RV;exact⟨p,hp,rfl⟩
    refine⟨ι',f,(s++#[Value.func (.yield p.1) #[] #[]])++j,w',seen P X.fn es.toArray,?_,N,O,t,⟨λι'' v u o _=>?_,m⟩,S.FU O Q X.fn,by rw[nY Q.evs,h6]⟩
    .have hs:stepG P Z (G X V) w=stepG.exec P Z true X V none w:=by simp[G,stepG,m]
     rw[hs];unfold stepG.exec;simp only[ht];have hl:=h2 #[];simp only[gK]at hl;simp only[hl];have he1:∀y,f.eval y=X.eval y:=λy=>by cases y<;>rfl
     have B:ak P (resolve f.eval { callee:= .value g,args:=#[.const (.func (.yield p.1) #[] #[])],argTypes:=#[] } 0) w' { target:= .fn (.func i) j,args:=s++#[Value.func (.yield p.1) #[] #[]] } w' []:=by
      unfold resolve;simp only[he1,q];rw[show Array.map f.eval #[Operand.const (Value.func (Fn.yield p.1) #[] #[])]=#[Value.func (.yield p.1) #[] #[]]from by simp[Frame.eval]];exact ak.pure _
     have z:=ak.Bc B (λd=>invoke d.target d.args) #[];have C:(invoke (.fn (.func i) j) (s++#[Value.func (.yield p.1) #[] #[]])).runT P w' #[]=(callFunc i (s++#[Value.func (.yield p.1) #[] #[]]++j)).runT P w' #[]:=rfl;have J:=sN (w:=w') (vs:=s++#[Value.func (.yield p.1) #[] #[]]++j) k1 (by rw[k2];rfl) k5 #[];have D:(resolve f.eval { callee:= .value g,args:=#[.const (.func (.yield p.1) #[] #[])],argTypes:=#[] } 0>>=λd=>invoke d.target d.args).runT P w' #[]=(.ok (.enter i (s++#[Value.func (.yield p.1) #[] #[]]++j)) w',#[]):=by
      rw[z];show(invoke (.fn (.func i) j) (s++#[Value.func (.yield p.1) #[] #[]])).runT P w' #[]=_;rw[C,J];simp
     have F:=jQ R.kind;have L:stepG.apply P true f V none (resolve f.eval { callee:= .value g,args:=#[.const (.func (.yield p.1) #[] #[])],argTypes:=#[] } 0>>=λd=>invoke d.target d.args) w'= .go (G (Frame.enter P i (s++#[Value.func (.yield p.1) #[] #[]]++j) .normal) (f::V)) w' #[]:=by
      unfold stepG.apply;simp only[if_true,D,f];simp[GStep.after,G,seen,F]
     have:=L;simp only[f]at this;rw[this];simp[GStep.after,f]
    .refine⟨R.fn,(R.tm.mono A).mono o,?_,?_,m,R.kind,qZ o (qZ A R.round)⟩
     .exact⟨_,_,rfl,⟨p,o _ _ hp,rfl⟩,(F.mono A).mono o⟩
     .exact((h7.append (R.ds.mono A))).mono o
   .cases e
  .cases e
 .cases e
theorem ac9(FF:eU P E)(S:Sat K Y h w){c:Code}{k:List AI}(R:RF Y ⟨x,U,.code c::k,T,false⟩ X){r:A1}(e:Ld E c k x U T h=some r):yg P Z K Y h w X V r:=by
 obtain⟨i,k',j,rfl,m⟩:=R.todo;have f:=RF.runs (P:=P) (main:=Z) (w:=w) (cs:=V) R;have p:X.mode= .run:=by simpa using R.mode
 have o:∀l,stepG.exec P Z true X V none w= .go (G { X with todo:=l } V) w->stepG P Z (G X V) w= .go (G { X with todo:=l } V) w #[]:=λl z=>by rw[f,z]
 cases c with
 |skip=>
  cases e;exact kU S R m (o _ (by unfold stepG.exec;simp only[j];rfl))
 |label n=>
  cases e;exact kU S R m (o _ (by unfold stepG.exec;simp only[j];rfl))
 |ret=>
  refine FM S R (jump:=some .ret) e ?_;rw[f];unfold stepG.exec;simp only[j];unfold Eu;simp only[j];rfl
 |seq a b=>
  cases e;exact kU S R (.cons rfl (.cons rfl m)) (o _ (by unfold stepG.exec;simp only[j];rfl))
 |cond c a b=>
  have e:(match ev U c with
   | .bool t=>some (A1.go ⟨x,U,.code (cond t a b)::k,T,false⟩ h)
   |_=>none)=some r:=e
  split at e
  .rename_i t A
   cases e;have v:=R.tm.ev X rfl c;rw[A]at v;have v:X.eval c= .bool t:=qQ v;refine kU S R (.cons (i:= .code (if t then a else b)) (by cases t<;>rfl) m) (o _ ?_);unfold stepG.exec;simp only[j,v];rfl
  .cases e
 |block id body=>
  cases e;exact kU S R (.cons rfl (.cons rfl m)) (o _ (by unfold stepG.exec;simp only[j];rfl))
 |loop body=>
  cases e;exact kU S R (.cons rfl (.cons rfl m)) (o _ (by unfold stepG.exec;simp only[j];rfl))
 |scope body=>
  cases e;exact kU S R (.cons rfl (.cons rfl m)) (o _ (by unfold stepG.exec;simp only[j];rfl))
 |exit id=>
  have e:(match AP id k with
   |some k'=>some (A1.go ⟨x,U,k',T,false⟩ h)
   |none=>mP x U (.code (.exit id)::k) T h (some (.exit id)))=some r:=e
  split at e
  .rename_i B q
   cases e;obtain⟨C,h1,y⟩:=pY q m;refine kU S R y (o _ ?_);unfold stepG.exec;simp only[j,h1];rfl
  .rename_i q
   have h1:=qP q m;refine FM S R e ?_;rw[f];unfold stepG.exec;simp only[j,h1];unfold Eu;rfl
 |goto l=>
  have e:(match AB l k with
   |some k'=>some (A1.go ⟨x,U,k',T,false⟩ h)
   |none=>mP x U (.code (.goto l)::k) T h (some (.goto l)))=some r:=e
  split at e
  .rename_i B q
   cases e;obtain⟨C,h1,y⟩:=pX q m;refine kU S R y (o _ ?_);unfold stepG.exec;simp only[j,h1];rfl
  .rename_i q
   have h1:=qO q m;refine FM S R e ?_;rw[f];unfold stepG.exec;simp only[j,h1];unfold Eu;rfl
 |rangeFunc g ps a b=>exact OM FF S R e
 |region id ops u=>
  cases u with
  |false=>
   cases e;exact kU S R (.cons ⟨0,rfl,rfl⟩ m) (o _ (by unfold stepG.exec;simp only[j];rfl))
  |true=>
   cases e;obtain⟨t,w',hr,⟨d,rfl⟩,_⟩:=ak.choose (P:=P) (w:=w) (.order X.fn id);refine⟨rfl,t,d,k',?_,m,⟨R.fn,R.tm,rfl,R.ds,p,R.kind,R.round⟩⟩;rw[f];unfold stepG.exec;simp only[j,Bool.not_true,gJ,if_false,hr.run,FF.mixed];simp[Region.schedule,G]
 |refuse s=>cases e
def acr(p:Option Code)(k:List AI):List AI:=match p with |some c=> .code c::k|none=>k
def Vx(st:LoopState):Bool:=match st with | .busy=>true|_=>false
theorem acO (hP : Of K P E) (F : Fits P E) (FF : eU P E) (S : Sat K Y h w) {i : AI} {k : List AI} (R : RF Y ⟨x, U, i :: k, T, false⟩ X) {r : A1} (e : Xv E i k x U T h = some r) : yg P Z K Y h w X V r := by
 have hrun := RF.runs (P := P) (main := Z) (w := w) (cs := V) R
 have hmode : X.mode = .run := by simpa using R.mode
 have he : ∀ l, stepG.exec P Z true X V none w = .go (G { X with todo := l } V) w → stepG P Z (G X V) w = .go (G { X with todo := l } V) w #[] := fun l hl => by rw [hrun, hl]
 cases i with
 | code c => exact ac9 FF S R e
 | inBlock id =>
   obtain ⟨i, k', ht, rfl, hk⟩ := R.todo
   cases e
   exact kU S R hk (he _ (by unfold stepG.exec; simp only [ht]; rfl))
 | inScope id =>
   obtain ⟨i, k', ht, rfl, hk⟩ := R.todo
   cases e
   exact kU S R hk (he _ (by unfold stepG.exec; simp only [ht]; rfl))
 | inLoop body =>
   obtain ⟨i, k', ht, rfl, hk⟩ := R.todo
   cases e
   exact kU S R (.cons rfl (.cons rfl hk)) (he _ (by unfold stepG.exec; simp only [ht]; rfl))
 | inRegion ops l =>
   cases l with
   | nil =>
     obtain ⟨i, k', ht, ⟨j, hj, rfl⟩, hk⟩ := R.todo
     cases e
     have hn : (List.range ops.size).drop j = [] := by
      apply List.drop_eq_nil_of_le
      have : ops.toList.length ≤ j := by
       rcases Nat.lt_or_ge j ops.toList.length with h | h
       · rw [List.drop_eq_getElem_cons h] at hj; cases hj
       · exact h
      simpa using this
     rw [hn] at ht
     exact kU S R hk (he _ (by unfold stepG.exec; simp only [ht]; rfl))
   | cons o rest => exact Vb hP F FF S R e
 | inRangeFunc id => cases e
 | endRangeFunc l =>
   obtain ⟨i, k', ht, ⟨p, hp, rfl⟩, hk⟩ := R.todo
   have e : (match h.obj l with
    | .loop st p fn nt t ps a b d => cond (Vx st) none
     (some (A1.go ⟨x, U, acr p k, T, false⟩ (h.put l (.loop .exhausted p fn nt t ps a b d))))
    | _ => none) = some r := e
   split at e
   · rename_i st pd fn nt t ps a b d hobj
     obtain ⟨p', ob, hp', hb1, hb2, hb3, hb4, hb5⟩ := S.at hobj trivial
     obtain rfl : p = p' := by rw [hp] at hp'; exact Option.some.inj hp'
     obtain ⟨q, hq, L, rfl, e1, e2, e3, e4, e5, e6, e7, e8⟩ := hb5
     have hst : (st == LoopState.busy) = false := by
      cases st <;> first | rfl | cases e
     have e : A1.go ⟨x, U, acr pd k, T, false⟩ (h.put l (.loop .exhausted pd fn nt t ps a b d)) = r := by
      cases st <;> first | exact Option.some.inj e | cases e
     subst e
     have hro : RO K.P Y p.2 (.loop .exhausted pd fn nt t ps a b d) (.loop { L with state := .exhausted }) := ⟨q, hq, _, rfl, rfl, e2, e3, e4, e5, e6, e7, e8⟩
     have hset := kS (P := P) S hp hobj trivial hb4 (by simp) hro rfl
     intro hf
     obtain ⟨ι', w', es, g1, g2, g3, g4, g5⟩ := hset hf
     have hE := g2.ext hf
     have hr : ak P (Instr.endLoop p.1) w L.pending w' ([(⟨.obj p.1, false, false⟩ : Event)] ++ es) := by
      unfold Instr.endLoop
      refine ak.bind (w1 := w) (e1 := [⟨.obj p.1, false, false⟩]) (e2 := es) (a := L) ?_ ?_
      · unfold Instr.getLoop
        exact ak.bind (w1 := w) (e2 := []) (e1 := [⟨.obj p.1, false, false⟩]) (ak.getObj (P := P) hb4 (by simp)) (ak.pure _)
      · rw [e1, hst]
        have := ak.bind (e2 := []) g1 (ak.pure (P := P) (w := w') L.pending) (f := fun _ => Pure.pure L.pending)
        simpa using this
     have hfi : kP K w w' ([(⟨.obj p.1, false, false⟩ : Event)] ++ es) :=
      (kP.refl K w (by intro e he; simp only [List.mem_singleton] at he; subst he; exact ⟨hb1, hb2, hb3, rfl⟩) : kP K w w [(⟨.obj p.1, false, false⟩ : Event)]).trans g4
     refine ⟨ι', { X with todo := (L.pending.map Item.code).toList ++ k' }, w', seen P X.fn ([(⟨.obj p.1, false, false⟩ : Event)] ++ es).toArray, ?_, g2, g3, ?_, S.FU g3 hfi X.fn, by rw [nY hfi.evs, AH.wV]⟩
     · rw [hrun]
       unfold stepG.exec
       simp only [ht]
       have := hr #[]
       simp only [Array.empty_append] at this
       simp only [this]
       simp [GStep.after, G]
     · refine ⟨R.fn, R.tm.mono hE, ?_, R.ds.mono hE, R.mode, R.kind, qZ hE R.round⟩
       rw [e2]
       cases pd with
       | none => exact hk.mono hE
       | some c => exact ⟨_, _, rfl, rfl, hk.mono hE⟩
   · cases e
 | uz ops n => cases e
 | beginRound =>
   obtain ⟨i, k', ht, rfl, hk⟩ := R.todo
   have e : (match x.round with
    | some l => (match h.obj l with
      | .loop .ready p fn nt t ps a b d => some (A1.go ⟨x, U, k, T, false⟩ (h.put l (.loop .busy p fn nt t ps a b d)))
      | _ => none)
    | none => none) = some r := e
   split at e
   · rename_i l hx
     have hr := R.round
     simp only [hx] at hr
     obtain ⟨p, hp, hr⟩ := hr
     split at e
     · rename_i pd fn nt t ps a b d hobj
       cases e
       obtain ⟨p', ob, hp', hb1, hb2, hb3, hb4, hb5⟩ := S.at hobj trivial
       obtain rfl : p = p' := by rw [hp] at hp'; exact Option.some.inj hp'
       obtain ⟨q, hq, L, rfl, e1, e2, e3, e4, e5, e6, e7, e8⟩ := hb5
       have hro : RO K.P Y p.2 (.loop .busy pd fn nt t ps a b d) (.loop { L with state := .busy }) := ⟨q, hq, _, rfl, rfl, e2, e3, e4, e5, e6, e7, e8⟩
       have hset := kS (P := P) S hp hobj trivial hb4 (by simp) hro rfl
       intro hf
       obtain ⟨ι', w', es, g1, g2, g3, g4, g5⟩ := hset hf
       have hE := g2.ext hf
       have hb : ak P (Instr.beginRound p.1) w () w' ([(⟨.obj p.1, false, false⟩ : Event)] ++ es) := by
        unfold Instr.beginRound
        refine ak.bind (w1 := w) (e1 := [⟨.obj p.1, false, false⟩]) (e2 := es) (a := L) ?_ ?_
        · unfold Instr.getLoop
          exact ak.bind (w1 := w) (e2 := []) (e1 := [⟨.obj p.1, false, false⟩]) (ak.getObj (P := P) hb4 (by simp)) (ak.pure _)
        · rw [e1]
          have := ak.bind (e2 := []) g1 (ak.pure (P := P) (w := w') ()) (f := fun _ => Pure.pure ())
          simpa using this
       have hs : ak P (do X.roundOf.elim (stuck "beginRound: no round") Instr.beginRound; Pure.pure Next.skip) w .skip w' ([(⟨.obj p.1, false, false⟩ : Event)] ++ es) := by
        rw [hr]
        have := ak.bind (e2 := []) hb (ak.pure (P := P) (w := w') Next.skip) (f := fun _ => Pure.pure Next.skip)
        simpa using this
       have hfi : kP K w w' ([(⟨.obj p.1, false, false⟩ : Event)] ++ es) :=
        (kP.refl K w (by intro e he; simp only [List.mem_singleton] at he; subst he; exact ⟨hb1, hb2, hb3, rfl⟩) : kP K w w [(⟨.obj p.1, false, false⟩ : Event)]).trans g4
       refine ⟨ι', { X with todo := k' }, w', seen P X.fn ([(⟨.obj p.1, false, false⟩ : Event)] ++ es).toArray, ?_, g2, g3, ?_, S.FU g3 hfi X.fn, by rw [nY hfi.evs, AH.wV]⟩
       · rw [hrun]
         unfold stepG.exec
         simp only [ht]
         have hk := jQ R.kind
         have := hs #[]
         simp only [Array.empty_append] at this
         unfold stepG.apply
         simp only [if_true, this, hk, ht]
         simp [GStep.after, G, Frame.finish, ht]
       · exact ⟨R.fn, R.tm.mono hE, hk.mono hE, R.ds.mono hE, R.mode, R.kind, qZ hE R.round⟩
     · cases e
   · cases e
theorem step_ok(a:Of K P E)(F:Fits P E)(FF:eU P E)(S:Sat K Y h w)(R:RF Y f X){r:A1}(e:iZ E f h=some r):yg P Z K Y h w X V r:=by
 obtain⟨x,U,W,T,ret⟩:=f;cases ret with
 |true=>exact aed a F FF S R e
 |false=>
  cases W with
  |nil=>
   refine FM S R (jump:=none) e ?_;have b:X.todo=[]:=R.todo;rw[RF.runs R];unfold stepG.exec;simp only[b];unfold Eu;simp only[b];rfl
  |cons i k=>exact acO a F FF S R e
end
end
section
variable{α:Type}{f:AF}{g:FuncId}{i id off:Nat}{isS:Bool}{o:AO}{ops:Array Oper}{t tx:TypeId}
section
variable{E:Env}{h:AH}
theorem sG:h.nx<=(h.put i o).nx:=by rw[AH.sD];exact aj _
theorem uh:h.nx<=(h.new o).nx:=by rw[AH.mZ];omega
def OR.Up(h:AH):OR->Prop
 | .val _ h'=>h.nx<=h'.nx
 | .alts l=>∀p∈l,h.nx<=p.2.nx
 |_=>True
theorem tX{vs:List AV}{h':AH}(e:fE h id off vs=some h'):h.nx<=h'.nx:=by
 unfold fE at e;split at e
 .rename_i l el g b
  cases a:(Nat.ble (off+vs.length) l.length&&vO vs)with
  |false=>rw[a]at e;cases e
  |true=>rw[a]at e;cases e;exact sG
 .cases e
theorem Aa{x:Option α}{f:α->OR}{r:OR}(e:x.map f=some r)(b:∀a,x=some a->(f a).Up h):r.Up h:=by
 cases x with
 |none=>cases e
 |some a=>cases e;exact b a rfl
theorem iL{b:Bool}{x y:Option OR}{r:OR}(e:cond b x y=some r)(a:x=some r->r.Up h)(c:y=some r->r.Up h):r.Up h:=by
 cases b with
 |true=>exact a e
 |false=>exact c e
theorem Y4{t:TypeId}{r:OR}(e:vH E h t=some r):r.Up h:=by
 unfold vH at e;split at e
 .cases e;exact uh
 .cases e
theorem adl{t:TypeId}{v:AV}{r:OR}(e:Gh E h t v=some r):r.Up h:=by
 unfold Gh at e;split at e
 .exact iL e (λe=>by cases e) (λe=>by cases e;exact uh)
 .cases e
theorem Lm{t:TypeId}{l:Nat}{ps:List (Nat×AV)}{r:OR}(e:jh E h t l ps=some r):r.Up h:=by
 unfold jh at e
 repeat' split at e
 all_goals first
  |(cases e;done)
  |exact iL e (λe=>by cases e) (λe=>Aa e λa _=>uh)
theorem Ye{t:TypeId}{a v:AV}{r:OR}(e:jH E h t a v=some r):r.Up h:=by
 unfold jH at e;split at e
 .exact iL e (λe=>by cases e) (λe=>iL e (λe=>Aa e λa b=>tX b) (λe=>by cases e))
 .cases e
theorem MG{t:TypeId}{l c:AV}{r:OR}(e:iy E h t l c=some r):r.Up h:=by
 unfold iy at e
 repeat' split at e
 all_goals first
  |(cases e;done)
  |exact iL e (λe=>by cases e;exact uh) (λe=>by cases e)
theorem RZ{t:TypeId}{x:Option AV}{r:OR}(e:lg E h t x=some r):r.Up h:=by
 unfold lg at e
 repeat' split at e
 all_goals first
  |(cases e;done)
  |(cases e;exact uh)
theorem DY{t:TypeId}{m k x:AV}{r:OR}(e:jO E h t m k x=some r):r.Up h:=by
 unfold jO at e
 repeat' split at e
 all_goals first
  |(cases e;done)
  |(cases e;exact sG)
theorem O9{t:TypeId}{m k:AV}{r:OR}(e:oU E h t m k=some r):r.Up h:=by
 unfold oU at e
 repeat' split at e
 all_goals first
  |(cases e;done)
  |(cases e;exact sG)
theorem KW{m s x:AV}{r:OR}(e:lJ h m s x=some r):r.Up h:=by
 unfold lJ at e
 repeat' split at e
 all_goals first
  |(cases e;done)
  |(cases e;exact sG)
theorem Yn{t:TypeId}{x:AV}{r:OR}(e:yK E h t x=some r):r.Up h:=by
 unfold yK at e
 repeat' split at e
 all_goals first
  |(cases e;done)
  |(cases e;exact uh)
theorem Vl{m a:Nat}{seen:List Nat}{b:Nat}{r:OR}(e:Jw h id m a seen b=some r):r.Up h:=by
 unfold Jw at e;split at e
 .refine iL e (λe=>by cases e) (λe=>iL e (λe=>?_) (λe=>by cases e))
  split at e
  .cases e;exact aj _
  .cases e
   intro p hp;obtain⟨x,_,rfl⟩:=gU.1 hp;exact sG
 .cases e
theorem aap{it:AV}{r:OR}(e:IK h it isS=some r):r.Up h:=by
 unfold IK at e
 repeat' split at e
 all_goals first
  |(cases e;done)
  |(cases e;exact aj _)
  |exact Vl e
  |exact iL e (λe=>by cases e;exact sG) (λe=>by cases e)
theorem VG{m k:AV}{r:OR}(e:Ap E h t m k=some r):r.Up h:=by
 unfold Ap at e
 repeat' split at e
 all_goals first
  |(cases e;done)
  |(cases e;exact sG)
  |exact iL e (λe=>by cases e;exact aj _) (λe=>by cases e)
theorem YW{m:AV}{r:OR}(e:EC E h t m=some r):r.Up h:=by
 unfold EC at e
 repeat' split at e
 all_goals first
  |(cases e;done)
  |(cases e;exact sG)
  |exact iL e (λe=>by cases e) (λe=>Aa e λa b=>tX b)
theorem GD{p n:AV}{r:OR}(e:mY E h t p n=some r):r.Up h:=by
 unfold mY at e
 repeat' split at e
 all_goals first
  |(cases e;done)
  |exact iL e (λe=>by cases e;exact aj _) (λe=>by cases e)
  |exact iL e (λe=>Aa e λa _=>sG) (λe=>by cases e)
  |exact iL e (λe=>by cases e) (λe=>by cases e)
theorem VN{ts:TypeId}{s x:AV}{p:AV×AH}(e:l7 E h ts tx s x=some p):h.nx<=p.2.nx:=by
 have iL:∀{b:Bool} {x y:Option (AV×AH)},cond b x y=some p->(x=some p->h.nx<=p.2.nx)->(y=some p->h.nx<=p.2.nx)->h.nx<=p.2.nx:=by
  intro b x y e c d;cases b with
  |true=>exact c e
  |false=>exact d e
 unfold l7 at e;split at e
 .split at e
  .cases e
  .refine iL e (λe=>by cases e) (λe=>?_)
   split at e
   .cases e
   .refine iL e (λe=>by cases e) (λe=>?_)
    split at e
    .exact iL e (λe=>by cases e;exact aj _) (λe=>by cases e;exact uh)
    .refine iL e (λe=>?_) (λe=>iL e (λe=>by cases e) (λe=>?_))
     .cases a:fE h _ _ _ with
      |none=>rw[a]at e;cases e
      |some h'=>rw[a]at e;cases e;exact tX a
     .cases a:jA E h _ _ _ with
      |none=>rw[a]at e;cases e
      |some h'=>rw[a]at e;cases e;exact uh
    .refine iL e (λe=>by cases e) (λe=>?_)
     split at e
     .refine iL e (λe=>?_) (λe=>by cases e)
      cases e;exact aS sG uh
     .cases e
    .cases e
 .cases e
theorem adt{ts:TypeId}{s x:AV}{p:AV×AH}(e:abz E h ts tx s x=some p):h.nx<=p.2.nx:=by
 unfold abz at e;split at e
 .unfold N7 at e
  split at e
  .split at e
   .split at e
    .cases e
    .rw[Bool.cond_eq_ite]at e
     split at e
     .cases e
     .rw[aP]at e
      obtain⟨a,_,rfl⟩:=e;exact uh
   .cases e
  .cases e
 .exact VN e
theorem Xc{α:Type}{x:Option AH}{f:AH->AV×AH}{p:AV×AH}(e:x.map f=some p)(b:∀a,x=some a->h.nx<=(f a).2.nx):h.nx<=p.2.nx:=by
 cases x with
 |none=>cases e
 |some a=>cases e;exact b a rfl
theorem aa6{td:TypeId}{d s:AV}{p:AV×AH}(e:IW E h td d s=some p):h.nx<=p.2.nx:=by
 unfold IW at e;split at e
 .split at e
  .cases e
  .split at e
   .dsimp only at e
    split at e
    .exact Xc (α:=Nat) e λa b=>tX b
    .cases e
   .dsimp only at e
    exact Xc (α:=Nat) e λa b=>tX b
   .cases e;exact aj _
   .cases e;exact aj _
   .cases e;exact aj _
   .cases e
 .cases e
theorem abb{s d:TypeId}{x:AV}{r:OR}(e:IY E s d x h=some r):r.Up h:=by
 unfold IY at e
 repeat' split at e
 all_goals first
  |(cases e;done)
  |(cases e;exact aj _)
  |exact iL e (λe=>by cases e;exact aj _) (λe=>by cases e)
  |exact iL e (λe=>by cases e;exact uh) (λe=>by cases e)
  |exact Aa e λa _=>aj _
theorem aav{b:Builtin}{args:List AV}{ts:List TypeId}{r:OR}(e:gX E h b args ts=some r):r.Up h:=by
 unfold gX at e;split at e
 .split at e
  .exact Aa e λp hp=>adt hp
  .cases e
 .split at e
  .exact Aa e λp hp=>aa6 hp
  .cases e
 .split at e
  .exact VG e
  .cases e
 .split at e
  .exact YW e
  .cases e
 .split at e
  .exact GD e
  .cases e
 .cases e
theorem abo{tm:Tr AV}{c:Call}{r:OR}(e:D8 c E tm h=some r):r.Up h:=by
 unfold D8 at e;split at e
 .exact aav e
 .unfold XL at e
  split at e
  .cases e;trivial
  .cases e;trivial
  .cases e
 .unfold JE at e
  split at e
  .split at e
   .cases e;trivial
   .cases e
  .cases e
theorem Dt{tm:Tr AV}{op:Op}{r:OR}(e:fQ op E tm h=some r):r.Up h:=by
 cases op
 case alloc t=>exact Y4 (E:=E) e
 case box t x=>exact adl (E:=E) e
 case buildSlice t l ps=>exact Lm (E:=E) e
 case store t a x=>exact Ye (E:=E) e
 case insert t m k x=>exact DY (E:=E) e
 case mapUpdate t m k x=>exact DY (E:=E) e
 case mapEntry t m k=>exact O9 (E:=E) e
 case entryStore t m s x=>exact KW e
 case convert s d x=>exact abb (E:=E) e
 case makeMap t x=>exact RZ (E:=E) e
 case makeSlice t l c=>exact MG (E:=E) e
 case range t x=>exact Yn (E:=E) e
 case next it isS=>exact aap e
 case call c=>exact abo (E:=E) e
 case go c=>cases e;trivial
 case defer c=>
  have i:(match c.callee with
   | .value g=>(match ev tm g with
     | .fn f a b=>some (OR.yU ⟨.fn f a b,evs tm c.args.toList⟩)
     |_=>none)
   |_=>none)=some r:=e
  split at i
  .split at i
   .cases i;trivial
   .cases i
  .cases i
 all_goals (cases e)
theorem PL{x:EX}{args:List AV}{r:OR}(e:PN x args h=some r):r.Up h:=by
 unfold PN at e
 repeat' split at e
 all_goals first
  |(cases e;done)
  |(cases e;exact aj _)
  |(cases e;show h.nx<=(h.new _).nx;rw[AH.mZ];omega)
  |(cases e;trivial)
  |exact iL e (λe=>by cases e) (λe=>by cases e;exact aj _)
  |exact iL e (λe=>Aa e λa b=>tX b) (λe=>by cases e)
  |exact iL e (λe=>by cases e;exact aj _) (λe=>by cases e)
  |exact iL e (λe=>iL e (λe=>Aa e λa b=>tX b) (λe=>by cases e;exact aj _)) (λe=>by cases e)
def A1.Up(h:AH):A1->Prop
 | .go _ h'| .call _ _ _ _ h'| .dcall _ _ _ h'| .round _ _ _ _ h'| .drawn _ _ _ _ _ h'| .ret _ h'=>h.nx<=h'.nx
 | .alts l=>∀p∈l,h.nx<=p.2.nx
 | .stop=>True
section
variable{x:AX}{Z:Tr AV}{X W:List AI}{Y:List AD}{r:A1}
theorem FK{j:Option Code}(e:mP x Z X Y h j=some r):r.Up h:=by
 unfold mP at e
 repeat' split at e
 all_goals first
  |(cases e;done)
  |(cases e;exact aj _)
  |(cases e;exact sG)
theorem acd(e:OG E x Z X Y h=some r):r.Up h:=by
 unfold OG at e
 repeat' split at e
 all_goals first
  |(cases e;done)
  |(cases e;exact sG)
  |(cases e;exact aj _)
  |(cases e;trivial)
  |(cases e;rename_i a;exact PL a)
theorem ac0{d:Option Tmp}{o:Option OR}(a:∀q,o=some q->q.Up h)(e:YN x Z d W Y o=some r):r.Up h:=by
 unfold YN at e;split at e
 .cases e;exact a _ rfl
 .cases e;trivial
 .cases e
theorem abm{d:Option Tmp}{args:List AV}(e:Ll E x Z d W Y h g args=some r):r.Up h:=by
 unfold Ll at e;split at e
 .cases e;exact aj _
 .exact ac0 (λq a=>PL a) e
 .cases e
theorem aez{o:Oper}(e:opA E x Z W Y h o=some r):r.Up h:=by
 unfold opA at e;split at e
 .cases e;exact aj _
 .cases b:fQ o.op E Z h with
  |none=>rw[b]at e;cases e
  |some q=>
   have c:=Dt b;rw[b]at e;cases q with
   |val v h'=>cases e;exact c
   |call g args=>exact abm e
   |yield l args=>cases e;exact aj _
   |yU a=>
    simp only[Xm]at e;split at e
    .cases e;exact aj _
    .cases e
   |alts l=>
    cases e;intro p hp;obtain⟨q,d,rfl⟩:=gU.1 hp;exact c q d
   |stop=>cases e;trivial
theorem Va{k:List AI}{ops:Array Oper}{o:Oper}{a:List Oper}(e:qx E x Z Y h k ops o a=some r):r.Up h:=by
 unfold qx at e;split at e
 .exact aez e
 .cases e;exact aj _
 .cases e
theorem MB{k:List AI}{g:Operand}{ps:Array Tmp}{a b:Code}(e:ru E x Z Y h k g ps a b=some r):r.Up h:=by
 unfold ru at e;split at e
 .rename_i d h1 mark c
  have f:h.nx<=h1.nx:=by
   split at c
   .split at c
    .cases c;exact aj _
    .cases c
   .cases c;exact uh
  repeat' split at e
  all_goals first
   |(cases e;done)
   |(cases e;exact aS f uh)
 .cases e
theorem abe{c:Code}{k:List AI}(e:Ld E c k x Z Y h=some r):r.Up h:=by
 cases c with
 |ret=>exact FK (j:=some .ret) e
 |cond c a b=>
  have e:(match ev Z c with
   | .bool t=>some (A1.go ⟨x,Z,.code (cond t a b)::k,Y,false⟩ h)
   |_=>none)=some r:=e
  split at e
  .cases e;exact aj _
  .cases e
 |exit id=>
  have e:(match AP id k with
   |some k'=>some (A1.go ⟨x,Z,k',Y,false⟩ h)
   |none=>mP x Z (.code (.exit id)::k) Y h (some (.exit id)))=some r:=e
  split at e
  .cases e;exact aj _
  .exact FK e
 |goto l=>
  have e:(match AB l k with
   |some k'=>some (A1.go ⟨x,Z,k',Y,false⟩ h)
   |none=>mP x Z (.code (.goto l)::k) Y h (some (.goto l)))=some r:=e
  split at e
  .cases e;exact aj _
  .exact FK e
 |rangeFunc g ps a b=>exact MB (E:=E) e
 |region id ops d=>cases d<;>(cases e;exact aj _)
 |refuse s=>cases e
 |_=>first|(cases e;done)|(cases e;exact aj _)
theorem aaE{i:AI}{k:List AI}(e:Xv E i k x Z Y h=some r):r.Up h:=by
 cases i with
 |code c=>exact abe (E:=E) e
 |inRegion ops l=>
  cases l with
  |nil=>cases e;exact aj _
  |cons o f=>exact Va (E:=E) e
 |inRangeFunc id=>cases e
 |endRangeFunc l=>
  have e:(match h.obj l with
   | .loop st p fn nt t ps a b d=>cond (Vx st) none
    (some (A1.go ⟨x,Z,acr p k,Y,false⟩ (h.put l (.loop .exhausted p fn nt t ps a b d))))
   |_=>none)=some r:=e
  split at e
  .rename_i st j fn nt t ps a b d g
   cases st<;>first|(cases e;exact sG)|cases e
  .cases e
 |beginRound=>
  have e:(match x.round with
   |some l=>(match h.obj l with
    | .loop .ready p fn nt t ps a b d=>some (A1.go ⟨x,Z,k,Y,false⟩ (h.put l (.loop .busy p fn nt t ps a b d)))
    |_=>none)
   |none=>none)=some r:=e
  repeat' split at e
  all_goals first
   |(cases e;done)
   |(cases e;exact sG)
 |_=>first|(cases e;done)|(cases e;exact aj _)
theorem qo(e:iZ E f h=some r):r.Up h:=by
 obtain⟨x,Z,X,Y,ret⟩:=f;cases ret with
 |true=>exact acd (E:=E) e
 |false=>
  cases X with
  |nil=>exact FK (j:=none) e
  |cons i k=>exact aaE (E:=E) e
end
def nR.Up(r:nR):Prop:=∀f h v h',r f h=some (v,h')->h.nx<=h'.nx
theorem vX{r:nR}(hr:nR.Up r){args:List AV}{d:Bool}{p:AV×AH}(e:E8 E r g args d h=some p):h.nx<=p.2.nx:=by
 unfold E8 at e;split at e
 .cases e
 .rename_i f c
  cases a:E.small.any (Nat.beq g)with
  |true=>
   rw[a]at e;simp only[bG]at e;split at e
   .rename_i q b
    cases e;have:=hr _ _ q.1 q.2 b;exact this
   .cases e
  |false=>
   rw[a]at e;exact hr _ _ p.1 p.2 e
structure yc.Up(o:yc):Prop where
 call:∀g args h p,o.call g args h=some p->h.nx<=p.2.nx
 round:∀l args h p,o.round l args h=some p->h.nx<=p.2.nx
theorem Di{r:nR}(hr:nR.Up r):(outs E r).Up:=by
 refine⟨λg args h p e=>vX hr e,λl args h p e=>?_⟩;simp only[outs]at e;split at e
 .exact hr _ _ p.1 p.2 e
 .cases e
theorem SB{r:yc}(hr:r.Up){o:Option OR}(a:∀q,o=some q->q.Up h){p:AV×AH}(e:vP E r h o=some p):h.nx<=p.2.nx:=by
 unfold vP at e;split at e
 .cases e;exact a _ rfl
 .split at e
  .exact hr.call _ _ _ _ e
  .split at e
   .rename_i b
    cases e;exact PL b
   .cases e
  .cases e
 .exact hr.round _ _ _ _ e
 .cases e
theorem zf:∀(ps:List (Nat×Nat×AO)) (h:AH),(pJ ps h).nx=h.nx
 |[],_=>rfl
 |p::ps,h=>by unfold pJ;rw[zf ps,AH.sD]
theorem Jp(m:Nat):∀(ps:List (Nat×Nat×AO)) (h:AH),(wake m ps h).1.nx=h.nx
 |[],_=>rfl
 |p::ps,h=>by
  unfold wake;have:=Jp m ps h;split;rename_i h' b a;rw[a]at this;simp only at this;cases m.testBit p.1 with
  |true=>simp only[bG];rw[AH.sD];exact this
  |false=>simp only[bH];exact this
theorem OE{r:Nat->yc}(hr:∀i,(r i).Up){x:AX}{b:Array Nat}{h0:AH}:∀(l:List Oper) (i:Nat) (tm:Tr AV) (c:List DQ) (a:List (Nat×AH)) (ps:List (Nat×Nat×AO)) (h:AH) (p:Tr AV×AH),
 uJ E r x b ops h0 l i tm c a ps h=some p->h.nx<=p.2.nx:=by
 intro l;induction l with
 |nil=>
  intro i tm c a ps h p e;unfold uJ at e;cases g:(qB b a.reverse&&c.all (su E b a.reverse h0))with
  |true=>rw[g]at e;cases e;rw[zf];exact aj _
  |false=>rw[g]at e;cases e
 |cons o os d=>
  intro i tm c a ps h p e;unfold uJ at e;split at e
  .cases e
  .exact d _ _ _ _ _ _ _ e
  .cases j:jZ o.op with
   |true=>
    rw[j]at e;simp only[bG]at e;split at e
    .rename_i v h' m
     have n:h.nx<=h'.nx:=Dt m;cases k:Nat.blt h.nx 1000000 with
     |false=>rw[k]at e;cases e
     |true=>
      rw[k]at e;have:=d _ _ _ _ _ _ _ e;simp only at this;omega
    .cases e
   |false=>
    rw[j]at e;simp only[bH]at e;split at e
    .exact d _ _ _ _ _ _ _ e
    .split at e
     .rename_i q f
      have s:=Jp (b.getD i 0) ps h;have h1:=SB (hr i) (λq f=>Dt f) f;have t:=d _ _ _ _ _ _ _ e;omega
     .cases e
theorem KF{r:nR}(hr:nR.Up r):∀(l:List (AF×AH)) (v:AV) (h:AH) (p:AV×AH),zZ r v h l=some p->h.nx<=p.2.nx:=by
 intro l;induction l with
 |nil=>intro v h p e;cases e;exact aj _
 |cons q l c=>
  intro v h p e;unfold zZ at e;split at e
  .rename_i d f
   obtain⟨s,a⟩:∃s,s=wR q.2.nx v h 12 d:=⟨_,rfl⟩;simp only[← a]at e;cases b:(AV.beq v s.1&&Nat.beq h.df s.2.df)with
   |true=>
    rw[b]at e;have:=c _ _ _ e;have g:h.nx<=(h.meet s.2).nx:=Nat.le_max_left _ _;omega
   |false=>rw[b]at e;cases e
  .cases e
theorem WW{r:nR}(hr:nR.Up r):∀(n:Nat) (f:AF) (k:List (AF×Option Tmp)) (h:AH) (v:AV) (h':AH),runK E r n f k h=some (v,h')->h.nx<=h'.nx:=by
 intro n;induction n with
 |zero=>intro f k h v h' e;cases e
 |succ n b=>
  intro f k h v h' e;have e:ET E r (runK E r n) k (iZ E f h)=some (v,h'):=e;cases j:iZ E f h with
  |none=>rw[j]at e;cases e
  |some a=>
   have i:=qo j;rw[j]at e;cases a with
   |go f' h1=>exact aS i (b _ _ _ _ _ e)
   |ret t h1=>
    cases k with
    |nil=>cases e;exact i
    |cons c k=>exact aS i (b _ _ _ _ _ e)
   |call f' d g args h1=>
    simp only[ET]at e;cases m:E.inl.any (Nat.beq g)with
    |true=>
     rw[m]at e;simp only[bG]at e;split at e
     .exact aS i (b _ _ _ _ _ e)
     .cases e
    |false=>
     rw[m]at e;simp only[bH]at e;split at e
     .rename_i p hp
      exact aS i (aS (vX hr hp) (b _ _ _ _ _ e))
     .cases e
   |dcall f' g args h1=>cases e
   |round f' d l args h1=>
    simp only[ET]at e;split at e
    .split at e
     .rename_i p hp
      exact aS i (aS (hr _ _ p.1 p.2 hp) (b _ _ _ _ _ e))
     .cases e
    .cases e
   |drawn x tm ops k ds h1=>cases e
   |alts l=>
    cases l with
    |nil=>cases e
    |cons p l=>
     simp only[ET]at e;split at e
     .rename_i q o
      have h1:=i p (by simp);have u:=b _ _ _ q.1 q.2 o;have s:=KF (r:=λf h=>runK E r n f k h) (λf h v h'=>b f k h v h') _ _ _ _ e;simp only at s;omega
     .cases e
   |stop=>cases e
theorem QY{r:nR}(hr:nR.Up r){args:List AV}{p:AV×AH}(e:QZ E r g args h=some p):h.nx<=p.2.nx:=by
 unfold QZ at e;cases a:E.inl.any (Nat.beq g)with
 |true=>
  rw[a]at e;simp only[bG]at e;split at e
  .exact WW hr _ _ _ _ p.1 p.2 e
  .cases e
 |false=>rw[a]at e;exact vX hr e
theorem Js(n:Nat):nR.Up (vW E n):=by
 induction n with
 |zero=>intro f h v h' e;cases e
 |succ n a=>
  intro f h v h' e;have e:yh E (vW E n) (iZ E f h)=some (v,h'):=e;cases c:iZ E f h with
  |none=>rw[c]at e;cases e
  |some r=>
   have b:=qo c;rw[c]at e;cases r with
   |go f' h1=>exact aS b (a _ _ _ _ e)
   |ret o h1=>cases e;exact b
   |call f' d g args h1=>
    simp only[yh]at e;split at e
    .rename_i p hp
     exact aS b (aS (QY a hp) (a _ _ _ _ e))
    .cases e
   |dcall f' g args h1=>
    simp only[yh]at e;split at e
    .rename_i p hp
     exact aS b (aS (vX a hp) (a _ _ _ _ e))
    .cases e
   |round f' d l args h1=>
    simp only[yh]at e;split at e
    .split at e
     .rename_i p hp
      exact aS b (aS (a _ _ p.1 p.2 hp) (a _ _ _ _ e))
     .cases e
    .cases e
   |drawn x tm ops k ds h1=>
    simp only[yh]at e;cases i:wS ops.toList (Region.before ops) ops with
    |false=>rw[i]at e;cases e
    |true=>
     rw[i]at e;simp only[bG]at e;split at e
     .rename_i p hp
      exact aS b (aS (OE (λ_=>Di a) _ _ _ _ _ _ _ _ hp) (a _ _ _ _ e))
     .cases e
   |alts l=>
    cases l with
    |nil=>cases e
    |cons p l=>
     simp only[yh]at e;split at e
     .rename_i q j
      have h1:=b p (by simp);have s:=a _ _ q.1 q.2 j;have m:=KF a _ _ _ _ e;simp only at m;omega
     .cases e
   |stop=>cases e
end
end
section
open Go.Conc (G)
variable{es:Array Event}
structure kX(K:Ctx)(w w₁:World):Prop where
 size:w₁.heap.size=w.heap.size
 own:∀b,¬K.fz b->K.own b->w₁.heap[b]? =w.heap[b]?
 old:∀b,K.fz b->w₁.heap[b]? =w.heap[b]?
 os:w₁.os=w.os
 tape:w₁.tape=w.tape
 output:w₁.output=w.output
theorem kX.refl{K:Ctx}(w:World):kX K w w:=⟨rfl,λ_ _ _=>rfl,λ_ _=>rfl,rfl,rfl,rfl⟩
theorem kX.trans{K:Ctx}{w d e:World}(h:kX K w d)(h':kX K d e):kX K w e:=
 ⟨h'.size.trans h.size,λb a c=>(h'.own b a c).trans (h.own b a c),λb a=>(h'.old b a).trans (h.old b a),h'.os.trans h.os,h'.tape.trans h.tape,h'.output.trans h.output⟩
theorem kX.drawn{K:Ctx}(w:World)(d:Nat):kX K w { w with drawn:=d }:=⟨rfl,λ_ _ _=>rfl,λ_ _=>rfl,rfl,rfl,rfl⟩
theorem Sat.rely{K:Ctx}{ι:Nm}{h:AH}{w a:World}(S:Sat K ι h w)(R:kX K w a):Sat K ι h a:=by
 refine⟨λi o e g=>?_,S.inj,by rw[R.size];exact S.lo,by rw[R.size];exact S.bs,λb c=>(R.old b c).trans (S.old b c),R.os.trans S.os,R.tape.trans S.tape,R.output.trans S.output,S.kV⟩;obtain⟨p,ob,h1,d,f,j,k⟩:=S.objs i o e g;exact⟨p,ob,h1,d,f,(R.own _ d f).trans j,k⟩
inductive Walk(P:Program)(main:Bool)(K:Ctx)(Stop:Nat->Goroutine->World->Prop):Nat->Goroutine->World->Prop
 |stop {d:Nat} {g:Goroutine} {w:World}:(∀w₁,kX K w w₁->Stop d g w₁)->Walk P main K Stop d g w
 |step {d:Nat} {g:Goroutine} {w:World} (g':World->Goroutine) (w':World->World) (es:World->Array Event):g.status= .running->
  (∀w₁,kX K w w₁->stepG P main g w₁= .go (g' w₁) (w' w₁) (es w₁)∧iG K w₁ (w' w₁) (es w₁))->
  (∀w₁,kX K w w₁->Walk P main K Stop (deafBehind d (es w₁)) (g' w₁) (w' w₁))->Walk P main K Stop d g w
section
variable{P:Program}{Z:Bool}{K:Ctx}{Stop Y:Nat->Goroutine->World->Prop}
theorem Walk.rely{d:Nat}{g:Goroutine}{w c:World}(h:Walk P Z K Stop d g w)(hr:kX K w c):Walk P Z K Stop d g c:=by
 cases h with
 |stop h=>exact .stop λa b=>h a (hr.trans b)
 |step g' w' es h1 e f=>exact .step g' w' es h1 (λa b=>e a (hr.trans b)) (λa b=>f a (hr.trans b))
theorem Walk.bind{d:Nat}{g:Goroutine}{w:World}(h:Walk P Z K Y d g w)(a:∀d g w,Y d g w->Walk P Z K Stop d g w):Walk P Z K Stop d g w:=by
 induction h with
 |stop h=>exact a _ _ _ (h _ (kX.refl _))
 |step g' w' es h1 b _ c=>exact .step g' w' es h1 b c
theorem Walk.of{d:Nat}{g:Goroutine}{w:World}(c:g.status= .running)(h:∀a,kX K w a->∃g' w' es,stepG P Z g a= .go g' w' es∧iG K a w' es∧Walk P Z K Stop (deafBehind d es) g' w'):Walk P Z K Stop d g w:=by
 classical
 let b (a:World) (hr:kX K w a):=h a hr;refine .step (λa=>if hr:kX K w a then(h a hr).choose else g) (λa=>if hr:kX K w a then(h a hr).choose_spec.choose else a)
  (λa=>if hr:kX K w a then(h a hr).choose_spec.choose_spec.choose else #[]) c (λa hr=>?_) (λa hr=>?_)
 .simp only[dif_pos hr]
  have:=(h a hr).choose_spec.choose_spec.choose_spec;exact⟨this.1,this.2.1⟩
 .simp only[dif_pos hr]
  have:=(h a hr).choose_spec.choose_spec.choose_spec;exact this.2.2
theorem Walk.mono{d:Nat}{g:Goroutine}{w:World}(h:Walk P Z K Y d g w)(b:∀d g w,Y d g w->Stop d g w):Walk P Z K Stop d g w:=by
 induction h with
 |stop h=>exact .stop λa hr=>b _ _ _ (h a hr)
 |step g' w' es h1 c _ e=>exact .step g' w' es h1 c e
structure Sub(K' K:Ctx):Prop where
 P:K'.P=K.P
 W0:K'.W0=K.W0
 base:K'.fz=K.fz
 own:∀b,K'.own b->K.own b
 peek:K'.peek->K.peek
structure Kept(K K':Ctx)(W w:World):Prop where
 size:W.heap.size<=w.heap.size
 same:∀b,b<W.heap.size->¬K.fz b->K.own b->¬K'.own b->w.heap[b]? =W.heap[b]?
theorem Kept.refl(K a:Ctx)(w:World):Kept K a w w:=⟨aj _,λ_ _ _ _ _=>rfl⟩
theorem kX.sub{K e:Ctx}(s:Sub e K){w d:World}(h:kX K w d):kX e w d:=
 ⟨h.size,λb a c=>h.own b (by rw[← s.base];exact a) (s.own b c),λb a=>h.old b (by rw[← s.base];exact a),h.os,h.tape,h.output⟩
theorem zM.sub{K c:Ctx}(s:Sub c K){n:Nat}{e:Event}(h:zM c n e):zM K n e:=by
 obtain⟨b,wr,d⟩:=e;cases b with
 |cell a=>exact⟨h.1.imp (λh=>⟨by rw[← s.base];exact h.1,s.own _ h.2⟩) (λh=>⟨s.peek h.1,by rw[← s.base];exact h.2.1,h.2.2⟩),h.2⟩
 |obj r=>exact⟨by rw[← s.base];exact h.1,s.own _ h.2.1,h.2.2⟩
 |mark m=>cases m<;>first|exact⟨by rw[← s.base];exact h.1,s.own _ h.2.1,h.2.2⟩|exact h
 |output=>exact h
 |goroutines=>exact h
theorem iG.sub{K d:Ctx}(s:Sub d K){w w':World}{es:Array Event}(h:iG d w w' es):iG K w w' es:=
 ⟨h.size,λb f g=>h.kept b f λ⟨a,c⟩=>g ⟨by rw[← s.base];exact a,s.own b c⟩,λe i=>(h.evs e i).imp (zM.sub s) id,h.os,h.tape,h.output⟩
theorem Kept.rely{K g:Ctx}{W w f:World}(h:Kept K g W w)(hr:kX K w f):Kept K g W f:=
 ⟨by rw[hr.size];exact h.size,λb a c d e=>(hr.own b c d).trans (h.same b a c d e)⟩
theorem Kept.fine{K g:Ctx}{W w f:World}(h:Kept K g W w)(i:iG g w f es):Kept K g W f:=
 ⟨aS h.size i.size,λb a c d e=>(i.kept b (jv a h.size) λx=>e x.2).trans (h.same b a c d e)⟩
theorem Walk.frame{b:Ctx}(s:Sub b K){W:World}{d:Nat}{g:Goroutine}{w:World}(h:Walk P Z b Y d g w)(e:Kept K b W w)(f:∀d g w,Kept K b W w->Y d g w->Stop d g w):Walk P Z K Stop d g w:=by
 induction h with
 |stop h=>exact .stop λa hr=>f _ _ _ (e.rely hr) (h a (hr.sub s))
 |step g' w' es h1 c _ i=>
  exact .step g' w' es h1 (λa hr=>⟨(c a (hr.sub s)).1,(c a (hr.sub s)).2.sub s⟩) (λa hr=>i a (hr.sub s) ((e.rely hr).fine (c a (hr.sub s)).2))
end
structure vJ(K:Ctx)(ι:Nm)(M:Nat->AO->Prop)(w:World):Prop where
 objs:∀i o,M i o->o.live->∃p ob,ι i=some p∧¬K.fz p.1∧K.own p.1∧w.heap[p.1]? =some ob∧RO K.P ι p.2 o ob
 inj:∀i j o o' p q,M i o->M j o'->o.live->o'.live->ι i=some p->ι j=some q->p.1=q.1->i=j
 lo:K.lo<=w.heap.size
 bs:∀b,K.fz b->b<w.heap.size
 old:∀b,K.fz b->w.heap[b]? =K.W0.heap[b]?
 os:w.os=K.W0.os
 tape:w.tape=K.W0.tape
 output:w.output=K.W0.output
 kV:K.peek->Ext dR ι
section
variable{K:Ctx}{Z:Nm}{h:AH}{w:World}{M:Nat->AO->Prop}
theorem Sat.toM(S:Sat K Z h w)(a:∀i o,M i o->o.live->h.tr.get i=some o):vJ K Z M w:=
 ⟨λi o e b=>S.objs i o (a i o e b) b,λi j o c p q e1 e2 l1 l2=>S.inj i j o c p q (a i o e1 l1) (a j c e2 l2) l1 l2,S.lo,S.bs,S.old,S.os,S.tape,S.output,S.kV⟩
theorem vJ.QH(S:vJ K Z M w)(a:∀i o,h.tr.get i=some o->o.live->M i o):Sat K Z h w:=
 ⟨λi o e b=>S.objs i o (a i o e b) b,λi j o c p q e1 e2 l1 l2=>S.inj i j o c p q (a i o e1 l1) (a j c e2 l2) l1 l2,S.lo,S.bs,S.old,S.os,S.tape,S.output,S.kV⟩
theorem vJ.ad5{M':Nat->AO->Prop}(S:vJ K Z M w)(a:∀i o,M' i o->o.live->M i o):vJ K Z M' w:=
 ⟨λi o e b=>S.objs i o (a i o e b) b,λi j o c p q e1 e2 l1 l2=>S.inj i j o c p q (a i o e1 l1) (a j c e2 l2) l1 l2,S.lo,S.bs,S.old,S.os,S.tape,S.output,S.kV⟩
theorem vJ.rely{a:World}(S:vJ K Z M w)(R:kX K w a):vJ K Z M a:=by
 refine⟨λi o e g=>?_,S.inj,by rw[R.size];exact S.lo,by rw[R.size];exact S.bs,λb c=>(R.old b c).trans (S.old b c),R.os.trans S.os,R.tape.trans S.tape,R.output.trans S.output,S.kV⟩;obtain⟨p,ob,h1,d,f,j,k⟩:=S.objs i o e g;exact⟨p,ob,h1,d,f,(R.own _ d f).trans j,k⟩
def Ctx.less(K:Ctx)(Z:Nm)(M:Nat->AO->Prop)(X:Nat->Prop)(w:World)(a:K.lo<=w.heap.size)(c:∀i o,M i o->o.live->∃p,Z i=some p∧p.1<w.heap.size):Ctx where
 P:=K.P
 W0:=K.W0
 fz:=K.fz
 lo:=w.heap.size
 peek:=K.peek
 own:=λb=>K.own b∧¬∃i o p,X i∧M i o∧o.live∧Z i=some p∧p.1=b
 nZ:=λb d=>⟨K.nZ b (aS a d),λ⟨i,o,p,_,h1,e,f,g⟩=>by
  obtain⟨j,e1,e2⟩:=c i o h1 e;rw[f]at e1;cases e1;omega⟩
theorem vJ.lt(S:vJ K Z M w):∀i o,M i o->o.live->∃p,Z i=some p∧p.1<w.heap.size:=λi o h1 a=>by
 obtain⟨p,ob,e1,_,_,b,_⟩:=S.objs i o h1 a;exact⟨p,e1,lt_of_heap b⟩
theorem uQ{X:Nat->Prop}{hlo hM}:Sub (Ctx.less K Z M X w hlo hM) K:=⟨rfl,rfl,rfl,λ_ h=>h.1,λh=>h⟩
theorem vJ.less(S:vJ K Z M w){X:Nat->Prop}(b:∀i o,h.tr.get i=some o->o.live->M i o∧¬X i):Sat (Ctx.less K Z M X w S.lo S.lt) Z h w:=by
 refine⟨λi o e c=>?_,λi j o a p q e1 e2 l1 l2=>S.inj i j o a p q (b i o e1 l1).1 (b j a e2 l2).1 l1 l2,aj _,S.bs,S.old,S.os,S.tape,S.output,S.kV⟩;obtain⟨h1,g⟩:=b i o e c;obtain⟨p,ob,e1,e2,k,l,m⟩:=S.objs i o h1 c;refine⟨p,ob,e1,e2,⟨k,λ⟨j,a,q,n,r,d,s,f⟩=>?_⟩,l,m⟩;exact g (S.inj i j o a p q h1 r c d e1 s f.symm▸n)
theorem vJ.more(S:vJ K Z M w){X:Nat->Prop}{ι':Nm}{h':AH}{w':World}(a:Sat (Ctx.less K Z M X w S.lo S.lt) ι' h' w')(c:Ext Z ι')(A:Kept K (Ctx.less K Z M X w S.lo S.lt) w w'){M':Nat->AO->Prop}
 (v:∀i o,M' i o->o.live->h'.tr.get i=some o∨(M i o∧X i)):vJ K ι' M' w':=by
 have old:∀i o,M i o->X i->o.live->∃p ob,Z i=some p∧¬K.fz p.1∧K.own p.1∧w'.heap[p.1]? =some ob∧RO K.P Z p.2 o ob∧¬(Ctx.less K Z M X w S.lo S.lt).own p.1:=by
  intro i o h1 d f;obtain⟨p,ob,e1,e2,g,k,r⟩:=S.objs i o h1 f;have B:¬(Ctx.less K Z M X w S.lo S.lt).own p.1:=λE=>E.2 ⟨i,o,p,d,h1,f,e1,rfl⟩;exact⟨p,ob,e1,e2,g,(A.same p.1 (lt_of_heap k) e2 g B).trans k,r,B⟩
 refine⟨λi o e f=>?_,λi j o l p q e1 e2 l1 l2 hp m b=>?_,aS S.lo A.size,a.bs,a.old,a.os,a.tape,a.output,a.kV⟩
 .rcases v i o e f with h1|⟨h1,d⟩
  .obtain⟨p,ob,e1,e2,g,k,r⟩:=a.objs i o h1 f
   exact⟨p,ob,e1,e2,g.1,k,r⟩
  .obtain⟨p,ob,e1,e2,g,k,r,_⟩:=old i o h1 d f
   exact⟨p,ob,c _ _ e1,e2,g,k,r.mono c⟩
 .rcases v i o e1 l1 with h1|⟨h1,d⟩<;>rcases v j l e2 l2 with n|⟨n,C⟩
  .exact a.inj i j o l p q h1 n l1 l2 hp m b
  .obtain⟨D,ob,k1,F,x,G,H⟩:=a.objs i o h1 l1
   obtain⟨q',s,y,g2,I,J,L,z⟩:=old j l n C l2;rw[hp]at k1;cases k1;rw[c _ _ y]at m;cases m;exact aX (b▸x) z
  .obtain⟨D,ob,k1,F,x,G,H⟩:=a.objs j l n l2
   obtain⟨q',s,y,g2,I,J,L,z⟩:=old i o h1 d l1;rw[m]at k1;cases k1;rw[c _ _ y]at hp;cases hp;exact aX (b▸x) z
  .obtain⟨D,ob,t,_⟩:=old i o h1 d l1
   obtain⟨q',s,u,_⟩:=old j l n C l2;rw[c _ _ t]at hp;cases hp;rw[c _ _ u]at m;cases m;exact S.inj i j o l _ _ h1 n l1 l2 t u b
theorem vJ.apart(S:vJ K Z M w){X:Nat->Prop}{ι':Nm}{h':AH}{w':World}(f:Sat (Ctx.less K Z M X w S.lo S.lt) ι' h' w')(g:Ext Z ι'){i:Nat}{o a:AO}(j:X i)(c:M i o)(d:o.live)(k:h'.tr.get i=some a)(b:a.live):False:=by
 obtain⟨p,ob,e1,_⟩:=S.objs i o c d;obtain⟨q,l,e,_,m,_⟩:=f.objs i a k b;rw[g _ _ e1]at e;cases e;exact m.2 ⟨i,o,p,j,c,d,e1,rfl⟩
end
end
section
variable{b i:Nat}{ι:Nm}
mutual
theorem AV.beq_eq:∀{a b:AV},AV.beq a b=true->a=b
 | .any,.any,_=>rfl
 | .one,.one,_=>rfl
 | .bool a,.bool b,h=>by simp[AV.beq]at h;rw[h]
 | .int k a,.int j b,h=>by
   simp only[AV.beq,aF]at h;have h1:k=j:=by have:=h.1;revert this;cases k<;>cases j<;>first|(intro _;rfl)|(intro h;cases h)
   have e:a=b:=by simpa using h.2
   rw[h1,e]
 | .str a,.str b,h=>by simp[AV.beq]at h;rw[h]
 | .pO,.pO,_=>rfl
 | .ptr a b,.ptr c d,h=>by
   simp only[AV.beq,aF]at h;rw[au h.1,au h.2]
 | .aQ,.aQ,_=>rfl
 | .emp,.emp,_=>rfl
 | .aO a n c,.aO b m d,h=>by
   simp only[AV.beq,aF,jW]at h;rw[h.1,au h.2.1,au h.2.2]
 | .sl a b c d,.sl x y z u,h=>by
   simp only[AV.beq,aF]at h;rw[au h.1.1.1,au h.1.1.2,au h.1.2,show d=u by simpa using h.2]
 | .pF,.pF,_=>rfl
 | .map a,.map b,h=>by simp only[AV.beq]at h;rw[au h]
 | .um,.um,_=>rfl
 | .fn f a b,.fn g c d,h=>by
   simp only[AV.beq,aF]at h;rw[au h.1.1,AV.uG h.1.2,AV.uG h.2]
 | .yield a,.yield b,h=>by simp only[AV.beq]at h;rw[au h]
 | .uj,.uj,_=>rfl
 | .iface t a,.iface u b,h=>by
   simp only[AV.beq,aF]at h;rw[au h.1,AV.beq_eq h.2]
 | .agg a,.agg b,h=>by simp only[AV.beq]at h;rw[AV.uG h]
 | .gI a,.gI b,h=>by simp only[AV.beq]at h;rw[AV.uG h]
theorem AV.uG:∀{a b:List AV},AV.BZ a b=true->a=b
 |[],[],_=>rfl
 |a::l,b::m,h=>by
  simp only[AV.BZ,aF]at h;rw[AV.beq_eq h.1,AV.uG h.2]
end
theorem AE.uG:∀{a b:List AE},AE.BZ a b=true->a=b
 |[],[],_=>rfl
 |⟨k,v,n⟩::l,⟨k',c,d⟩::m,h=>by
  simp only[AE.BZ,aF]at h;rw[AV.beq_eq h.1.1.1,AV.beq_eq h.1.1.2,au h.1.2,AE.uG h.2]
theorem AO.beq_eq{a b:AO}(h:AO.beq a b=true):a=b:=by
 unfold AO.beq at h;split at h
 .simp only[aF,oH]at h
  obtain⟨⟨⟨h1,c⟩,d⟩,e⟩:=h;rw[au h1,c,d,AV.uG e]
 .simp only[aF]at h
  rw[au h.1,AE.uG h.2]
 .simp only[aF,oH]at h
  obtain⟨⟨⟨h1,c⟩,d⟩,e⟩:=h;rw[h1,au c,d,au e]
 .simp only[aF,oH]at h
  rw[h.1,au h.2]
 .cases h
theorem rH:∀{a b:Tr AO} {i:Nat} {o:AO},(Bo a b).get i=some o->a.get i=some o∧b.get i=some o
 | .e,b,i,o,h=>by cases b<;>(simp only[Bo,Tr.fO]at h;cases h)
 | .n l v r,.e,i,o,h=>by simp only[Bo,Tr.fO]at h;cases h
 | .n l v r,.n f d g,i,o,h=>by
   cases v with
   |none=>
    simp only[Bo]at h;rw[Tr.jS]at h ⊢;rw[Tr.jS];by_cases h0:i=0
    .rw[aC h0]at h;cases h
    .rw[ah h0]at h ⊢;rw[ah h0]
     by_cases h1:i % 2=1
     .rw[aC h1]at h ⊢;rw[aC h1];exact rH h
     .rw[ah h1]at h ⊢;rw[ah h1];exact rH h
   |some a=>
    cases d with
    |none=>
     simp only[Bo]at h;rw[Tr.jS]at h ⊢;rw[Tr.jS];by_cases h0:i=0
     .rw[aC h0]at h;cases h
     .rw[ah h0]at h ⊢;rw[ah h0]
      by_cases h1:i % 2=1
      .rw[aC h1]at h ⊢;rw[aC h1];exact rH h
      .rw[ah h1]at h ⊢;rw[ah h1];exact rH h
    |some b=>
     simp only[Bo]at h;rw[Tr.jS]at h ⊢;rw[Tr.jS];by_cases h0:i=0
     .rw[aC h0]at h ⊢;rw[aC h0]
      cases c:AO.beq a b with
      |true=>rw[c]at h;cases h;rw[AO.beq_eq c];exact⟨rfl,rfl⟩
      |false=>rw[c]at h;cases h
     .rw[ah h0]at h ⊢;rw[ah h0]
      by_cases h1:i % 2=1
      .rw[aC h1]at h ⊢;rw[aC h1];exact rH h
      .rw[ah h1]at h ⊢;rw[ah h1];exact rH h
theorem uf{t:Tr AO}:∀(n:Nat) (l:List Nat) (acc:Tr AO),(∀i o,acc.get i=some o->t.get i=some o)->∀i o,(reach t n l acc).get i=some o->t.get i=some o
 |0,_,acc,a,i,o,h=>by unfold reach at h;exact a i o h
 |n+1,[],acc,a,i,o,h=>by unfold reach at h;exact a i o h
 |n+1,j::l,acc,a,i,o,h=>by
  unfold reach at h;split at h
  .exact uf n l acc a i o h
  .split at h
   .rename_i c hj
    refine uf n _ (acc.set j c) (λd e h'=>?_) i o h;rcases Tr.uD h' with⟨rfl,rfl⟩|⟨_,b⟩
    .exact hj
    .exact a d e b
   .exact uf n l acc a i o h
theorem ab4{h:AH}{args:List AV}{o:AO}(e:(h.sub args).tr.get i=some o):h.tr.get i=some o:=
 uf 100000 _ .e (λi o h=>by rw[Tr.fO]at h;cases h) i o e
theorem zh:∀{h p h':Tr AO} {i:Nat} {o:AO},(yw h p h').get i=some o->h'.get i=some o∨(p.get i=none∧h.get i=some o)
 | .n l v r,.n pl c g,.n d b f,i,o,e=>by
   simp only[yw]at e;rw[Tr.jS]at e ⊢;rw[Tr.jS,Tr.jS];by_cases h0:i=0
   .rw[aC h0]at e ⊢;rw[aC h0,aC h0]
    cases c with
    |some x=>exact .inl e
    |none=>cases b with
     |some x=>exact .inl e
     |none=>exact .inr ⟨rfl,e⟩
   .rw[ah h0]at e ⊢;rw[ah h0,ah h0]
    by_cases h1:i % 2=1
    .rw[aC h1]at e ⊢;rw[aC h1,aC h1];exact zh e
    .rw[ah h1]at e ⊢;rw[ah h1,ah h1];exact zh e
 | .n l v r,.e,.n d b f,i,o,e=>by
   simp only[yw]at e;rw[Tr.jS]at e ⊢;rw[Tr.jS];by_cases h0:i=0
   .rw[aC h0]at e ⊢;rw[aC h0]
    cases b with
    |some x=>exact .inl e
    |none=>exact .inr ⟨Tr.fO _,e⟩
   .rw[ah h0]at e ⊢;rw[ah h0]
    by_cases h1:i % 2=1
    .rw[aC h1]at e ⊢;rw[aC h1]
     rcases zh e with a|⟨_,a⟩
     .exact .inl a
     .exact .inr ⟨Tr.fO _,a⟩
    .rw[ah h1]at e ⊢;rw[ah h1]
     rcases zh e with a|⟨_,a⟩
     .exact .inl a
     .exact .inr ⟨Tr.fO _,a⟩
 | .e,.e,.e,i,o,e=>by simp only[yw]at e;exact .inr ⟨Tr.fO _,e⟩
 | .n _ _ _,.e,.e,i,o,e=>by simp only[yw]at e;exact .inr ⟨Tr.fO _,e⟩
 | .e,.e,.n _ _ _,i,o,e=>by simp only[yw]at e;exact .inl e
 | .e,.n _ _ _,.e,i,o,e=>by simp only[yw]at e;exact .inl e
 | .e,.n _ _ _,.n _ _ _,i,o,e=>by simp only[yw]at e;exact .inl e
 | .n _ _ _,.n _ _ _,.e,i,o,e=>by simp only[yw]at e;rw[Tr.fO]at e;cases e
theorem uH(a b i:Nat):(i=a∧sw a b i=b)∨(i≠a∧i=b∧sw a b i=a)∨(i≠a∧i≠b∧sw a b i=i):=by
 unfold sw;by_cases h:i=a
 .left
  have:Nat.beq i a=true:=by rw[h];simp
  rw[this];exact⟨h,rfl⟩
 .have h1:Nat.beq i a=false:=by cases c:Nat.beq i a with |false=>rfl|true=>exact aX (au c) h
  rw[h1,bH];by_cases h':i=b
  .right;left
   have:Nat.beq i b=true:=by rw[h'];simp
   rw[this];exact⟨h,h',rfl⟩
  .right;right
   have d:Nat.beq i b=false:=by cases c:Nat.beq i b with |false=>rfl|true=>exact aX (au c) h'
   rw[d];exact⟨h,h',rfl⟩
theorem ZF(a b i:Nat):sw a b (sw a b i)=i:=by
 rcases uH a b i with⟨h1,d⟩|⟨h0,h1,d⟩|⟨h0,h1,d⟩
 .rw[d]
  rcases uH a b b with⟨c,g2⟩|⟨_,_,g2⟩|⟨_,c,_⟩
  .rw[g2,c,h1]
  .rw[g2,h1]
  .exact aX rfl c
 .rw[d]
  rcases uH a b a with⟨_,g2⟩|⟨c,_,_⟩|⟨c,_,_⟩
  .rw[g2,h1]
  .exact aX rfl c
  .exact aX rfl c
 .rw[d,d]
def Yc(a b:Nat)(ι:Nm):Nm:=λi=>ι (sw a b i)
theorem GV(a b:Nat)(ι:Nm)(i:Nat):Yc a b ι (sw a b i)=ι i:=by unfold Yc;rw[ZF]
mutual
theorem RV.sw{ι:Nm}(a b:Nat):∀{x:AV} {v:Value},RV ι x v->RV (Yc a b ι) (x.sw a b) v
 | .any,_,_=>by unfold AV.sw RV;trivial
 | .one,_,h| .bool _,_,h| .int _ _,_,h| .str _,_,h| .pO,_,h| .aQ,_,h| .emp,_,h| .pF,_,h| .um,_,h| .uj,_,h| .aO _ _ _,_,h=>by
   unfold AV.sw;unfold RV at h ⊢;exact h
 | .ptr i o,v,h=>by
   unfold AV.sw;unfold RV at h ⊢;obtain⟨p,hi,e⟩:=h;exact⟨p,by rw[GV];exact hi,e⟩
 | .sl i o l c,v,h=>by
   unfold AV.sw;unfold RV at h ⊢;obtain⟨p,hi,e⟩:=h;exact⟨p,by rw[GV];exact hi,e⟩
 | .map i,v,h=>by
   unfold AV.sw;unfold RV at h ⊢;obtain⟨p,hi,e⟩:=h;exact⟨p,by rw[GV];exact hi,e⟩
 | .yield i,v,h=>by
   unfold AV.sw;unfold RV at h ⊢;obtain⟨p,hi,e⟩:=h;exact⟨p,by rw[GV];exact hi,e⟩
 | .fn f l m,v,h=>by
   unfold AV.sw;unfold RV at h ⊢;obtain⟨as,bs,e,h1,d⟩:=h;exact⟨as,bs,e,dS.sw a b h1,dS.sw a b d⟩
 | .iface t x,v,h=>by
   unfold AV.sw;unfold RV at h ⊢;obtain⟨y,e,h1⟩:=h;exact⟨y,e,RV.sw a b h1⟩
 | .agg l,v,h=>by
   unfold AV.sw;unfold RV at h ⊢;obtain⟨y,e,h1⟩:=h;exact⟨y,e,dS.sw a b h1⟩
 | .gI l,v,h=>by
   unfold AV.sw;unfold RV at h ⊢;obtain⟨y,e,h1⟩:=h;exact⟨y,e,dS.sw a b h1⟩
theorem dS.sw{ι:Nm}(a b:Nat):∀{l:List AV} {vs:List Value},dS ι l vs->dS (Yc a b ι) (AV.Zg a b l) vs
 |[],_,h=>by unfold AV.Zg;rw[bU h];exact dG
 |x::l,_,h=>by
  obtain⟨v,r,rfl,h1,c⟩:=bf h;unfold AV.Zg;exact cO (RV.sw a b h1) (dS.sw a b c)
end
theorem JX(a b:Nat):∀l:List AV,(AV.Zg a b l).length=l.length
 |[]=>by unfold AV.Zg;rfl
 |x::l=>by unfold AV.Zg;simp[JX a b l]
theorem qL{α:Type}(f:α->α):∀(t:Tr α) (i:Nat),(zk f t).get i=(t.get i).map f
 | .e,i=>rfl
 | .n l v r,i=>by
   unfold zk;rw[Tr.jS,Tr.jS];by_cases h0:i=0
   .rw[aC h0,aC h0];cases v<;>rfl
   .rw[ah h0,ah h0]
    by_cases h1:i % 2=1
    .rw[aC h1,aC h1];exact qL f l _
    .rw[ah h1,ah h1];exact qL f r _
theorem RT.sw{ι:Nm}{nt:Nat}{tm:Tr AV}{tmps:Array Value}(a b:Nat)(h:RT ι nt tm tmps):RT (Yc a b ι) nt (zk (AV.sw a b) tm) tmps:=by
 refine⟨h.1,λt x c=>?_⟩;rw[qL]at c;obtain⟨y,d,rfl⟩:=aP.1 c;exact(h.2 t y d).sw a b
theorem yG.sw{ι:Nm}(a b:Nat){l:List AE}{es:List MapEntry}(h:yG ι l es):yG (Yc a b ι) (l.map λe=>⟨e.key.sw a b,e.val.sw a b,e.born⟩) es:=by
 induction l generalizing es with
 |nil=>exact h
 |cons x l c=>
  obtain⟨e,r,rfl,h1,d,f,g⟩:=h;exact⟨e,r,rfl,h1.sw a b,d.sw a b,f,c g⟩
theorem AO.Ow{a:Nat}{o:AO}:(o.sw a b).live↔o.live:=by cases o<;>exact Iff.rfl
theorem RO.sw{P:Program}{ι:Nm}{cap:Nat}(a b:Nat){o:AO}{ob:Obj}(h:RO P ι cap o ob):RO P (Yc a b ι) cap (o.sw a b) ob:=by
 cases o with
 |dead=>trivial
 |cells vs el g fz=>
  obtain⟨c,lo,k,e,⟨l1,l2,e2,r⟩,h1,f,l⟩:=h;exact⟨c,lo,k,e,⟨l1,l2,e2,r.sw a b⟩,λt=>by rw[JX];exact h1 t,f,l⟩
 |map es ck=>obtain⟨n,e,h1⟩:=h;exact⟨n,e,h1.sw a b⟩
 |KE m s seen st=>
  obtain⟨x,h1,f,e⟩:=h;refine⟨x,λj hj=>?_,λu=>?_,e⟩
  .cases m with
   |none=>cases hj
   |some i=>
    cases hj;obtain⟨p,hp,v⟩:=h1 i rfl;exact⟨p,by rw[GV];exact hp,v⟩
  .cases m with
   |none=>exact f rfl
   |some i=>cases u
 |sit s p=>exact h
 |loop st F fn nt tm ps x y d=>
  obtain⟨q,w,L,e,h1,f,l,A,B,C,D,E⟩:=h;exact⟨q,by rw[GV];exact w,L,e,h1,f,l,A.sw a b,B,C,D,E⟩
 |yU z=>exact h
theorem AH.U1{a:Nat}{h:AH}{o:AO}(e:(h.sw a b).tr.get i=some o)(l:o.live):∃c,h.tr.get (Ev.sw a b i)=some c∧o=c.sw a b:=by
 obtain⟨tr,nx,df⟩:=h;have e:(swT a b (zk (AO.sw a b) tr)).get i=some o:=e;have g:∀j,acT (zk (AO.sw a b) tr) j=o->∃c,tr.get j=some c∧o=c.sw a b:=λj hj=>by
  unfold acT at hj;rw[qL]at hj;cases k:tr.get j with
  |none=>rw[k]at hj;subst hj;exact l.elim
  |some c=>rw[k]at hj;exact⟨c,rfl,hj.symm⟩
 unfold swT at e;show ∃c,tr.get (Ev.sw a b i)=some c∧_;rcases Tr.uD e with⟨h1,m⟩|⟨h1,e⟩
 .have:Ev.sw a b i=a:=by
   rcases uH a b i with⟨d,g2⟩|⟨_,_,g2⟩|⟨_,d,_⟩
   .rw[g2,← h1,d]
   .exact g2
   .exact aX h1 d
  rw[this];exact g a m.symm
 .rcases Tr.uD e with⟨f,n⟩|⟨f,e⟩
  .have:Ev.sw a b i=b:=by
    rcases uH a b i with⟨_,g2⟩|⟨d,_,_⟩|⟨d,_,_⟩
    .exact g2
    .exact aX f d
    .exact aX f d
   rw[this];exact g b n.symm
  .have:Ev.sw a b i=i:=by
    rcases uH a b i with⟨d,_⟩|⟨_,d,_⟩|⟨_,_,g2⟩
    .exact aX d f
    .exact aX d h1
    .exact g2
   rw[this];rw[qL]at e;obtain⟨c,p,q⟩:=aP.1 e;exact⟨c,p,q.symm⟩
theorem AH.adM{a:Nat}{h:AH}:(h.sw a b).nx=h.nx:=by obtain⟨tr,nx,df⟩:=h;rfl
theorem AH.afn{a:Nat}{h:AH}:(h.sw a b).df=h.df:=by obtain⟨tr,nx,df⟩:=h;rfl
theorem acB{a:Nat}(e:a<OLD)(f:b<OLD)(h:Ext dR ι):Ext dR (Yc a b ι):=by
 intro i p hi;have c:OLD<=i:=by
  unfold dR at hi;rcases aT i OLD with h1|h1
  .rw[ah (by omega)]at hi;cases hi
  .exact h1
 unfold Yc;rcases uH a b i with⟨h1,_⟩|⟨_,h1,_⟩|⟨_,_,d⟩
 .omega
 .omega
 .rw[d];exact h i p hi
theorem Sat.sw{K:Ctx}{ι:Nm}{h:AH}{w:World}(S:Sat K ι h w){a b:Nat}(g:a<OLD)(k:b<OLD):Sat K (Yc a b ι) (h.sw a b) w:=by
 refine⟨λi o hi f=>?_,λi j o y p q h1 l l1 l2 hp m c=>?_,S.lo,S.bs,S.old,S.os,S.tape,S.output,λn=>acB g k (S.kV n)⟩
 .obtain⟨d,e,rfl⟩:=AH.U1 hi f
  obtain⟨p,ob,k1,r,s,t,u⟩:=S.objs _ d e (AO.Ow.1 f);exact⟨p,ob,k1,r,s,t,u.sw a b⟩
 .obtain⟨d,e,rfl⟩:=AH.U1 h1 l1
  obtain⟨v,g2,rfl⟩:=AH.U1 l l2;have:=S.inj _ _ d v p q e g2 (AO.Ow.1 l1) (AO.Ow.1 l2) hp m c;have x:=gu (Ev.sw a b) this;rwa[ZF,ZF]at x
theorem Grow.sw{ι ι':Nm}{n c a b:Nat}(g:Grow ι ι' n c)(h:n<=a)(d:a<c)(j:n<=b)(e:b<c):Grow ι (Yc a b ι') n c:=by
 refine⟨g.le,λi hi=>?_⟩;have:Ev.sw a b i=i:=by
  rcases uH a b i with⟨f,_⟩|⟨_,f,_⟩|⟨_,_,g2⟩
  .omega
  .omega
  .exact g2
 unfold Yc;rw[this];exact g.same i hi
theorem G9(n0:Nat)(v:AV)(h:AH):∀(n:Nat) (q:AV×AH),(wR n0 v h n q).2.nx=q.2.nx
 |0,_=>rfl
 |n+1,q=>by
  unfold wR;split
  .rename_i p hp
   cases a:(Nat.ble n0 p.1&&Nat.ble n0 p.2&&Nat.blt p.1 q.2.nx&&Nat.blt p.2 q.2.nx&&Nat.ble q.2.nx OLD)with
   |true=>rw[bG,G9 n0 v h n];exact AH.adM
   |false=>rfl
  .rfl
theorem G8{n0:Nat}{v:AV}{h:AH}(Q:AV×AH->Prop):∀(n:Nat) (q:AV×AH),Q q->(∀q a b,Q q->n0<=a->n0<=b->a<q.2.nx->b<q.2.nx->q.2.nx<=OLD->Q (q.1.sw a b,q.2.sw a b))->Q (wR n0 v h n q)
 |0,q,c,_=>c
 |n+1,q,c,d=>by
  unfold wR;split
  .rename_i p hp
   cases e:(Nat.ble n0 p.1&&Nat.ble n0 p.2&&Nat.blt p.1 q.2.nx&&Nat.blt p.2 q.2.nx&&Nat.ble q.2.nx OLD)with
   |true=>
    rw[bG];simp only[aF]at e;obtain⟨⟨⟨⟨c1,c2⟩,f⟩,g⟩,i⟩:=e;rw[dB]at f g;exact G8 Q n _ (d q p.1 p.2 c (aJ c1) (aJ c2) f g (aJ i)) d
   |false=>exact c
  .exact c
end
section
open Go.Conc (G)
variable{args:List AV}{f:AF}{fr:Frame}{g:FuncId}{kind:CallKind}{u:Value}{vs:Array Value}
def Calm(c:Frame):Prop:=∀e l,c.mode= .panicking (e::l)->e.recovered=false
def back(k:CallKind)(c:Frame)(u:Value):Frame:=match k with | .normal=>c.finish u|_=>c
def kJ(K:Ctx)(ι:Nm)(nx:Nat)(k:CallKind)(c:Frame)(a:List Frame)(v:AV)(h':AH):Nat->Goroutine->World->Prop:=λd g w=>
 ∃ι' u,g=G (back k c u) a∧Grow ι ι' nx h'.nx∧Sat K ι' h' w∧RV ι' v u∧d=h'.df
def CB(P:Program)(E:Env)(main:Bool)(r:nR):Prop:=∀(K:Ctx) (ι:Nm) (w:World) (fr c:Frame) (a:List Frame) (f:AF) (h:AH) (v:AV) (h':AH),Of K P E->r f h=some (v,h')->Sat K ι h w->RF ι f fr->
 (fr.kind= .deferred->Calm c)->Free ι h.nx h'.nx->Walk P main K (kJ K ι h.nx fr.kind c a v h') h.df (G fr (c::a)) w
section
variable{P:Program}{Z:Bool}{K:Ctx}{Y:Nm}{h:AH}{w:World}{E:Env}
theorem uF{c:Frame}{a:List Frame}(d:fr.kind= .normal∨fr.kind= .deferred)(f:fr.kind= .deferred->Calm c):doReturn P Z fr (c::a) none u w= .go (G (back fr.kind c u) a) w:=by
 unfold doReturn;rcases d with d|d
 .simp only[d];rfl
 .simp only[d]
  have b:=f d;unfold back G;simp only;congr 2;split
  .rename_i e g
   have:=b _ _ g;cases this
  .rfl
theorem IC:∀(args:List AV) (i:Nat) (tm:Tr AV) (t:Nat) (a:AV),(setArgs args i tm).get t=some a->(∃j,t=i+j∧args[j]? =some a)∨tm.get t=some a
 |[],i,tm,t,a,h=> .inr h
 |b::l,i,tm,t,a,h=>by
  rcases IC l (i+1) (tm.set i b) t a h with⟨j,rfl,hj⟩|h'
  .exact .inl ⟨j+1,by omega,hj⟩
  .rcases Tr.uD h' with⟨rfl,rfl⟩|⟨_,c⟩
   .exact .inl ⟨0,rfl,rfl⟩
   .exact .inr c
theorem lV(FF:eU P E){d:Bool}(e:jJ E g args d=some f)(k:dS Y args vs.toList)(m:kind=if d then .deferred else .normal):RF Y f (Frame.enter P g vs kind):=by
 unfold jJ at e;split at e
 .rename_i c n o ex p
  obtain⟨fn,h1,q,r,_,_⟩:=FF.code g c n o ex p;cases b:Nat.ble args.length n with
  |false=>rw[b]at e;cases e
  |true=>
   rw[b]at e;cases e;have s:vs.size<=n:=by
    have:=aJ b;rw[k.length]at this;simpa using this
   refine⟨rfl,⟨?_,λt a u=>?_⟩,?_,rfl,rfl,m,rfl⟩
   .show(vs++Array.replicate _ undef).size=n
    simp only[h1,kD,qE,r];simp;omega
   .rcases IC args 0 .e t a u with⟨j,rfl,hj⟩|h'
    .obtain⟨v,l,hr⟩:=k.get hj
     have i:j<vs.size:=by
      have:=l;rw[aA]at this;simpa using this.1
     show RV Y a ((vs++Array.replicate _ undef).getD (0+j) undef);rw[fA,bg,Array.getElem?_append_left i];have:vs[j]? =some v:=by simpa using l
     rw[this];exact hr
    .rw[Tr.fO]at h';cases h'
   .refine⟨_,[],rfl,?_,rfl⟩
    show Item.code _= .code c;simp only[h1,Option.bind_some,q,qE]
 .cases e
theorem CZ{r:nR}(hr:CB P E Z r)(j:Of K P E)(FF:eU P E){g:FuncId}{args:List AV}{vs:Array Value}{d:Bool}{p:AV×AH}(e:E8 E r g args d h=some p)(S:Sat K Y h w)(x:dS Y args vs.toList)
 {kind:CallKind}(y:kind=if d then .deferred else .normal){c:Frame}{a:List Frame}(s:kind= .deferred->Calm c)(l:Free Y h.nx p.2.nx):
 Walk P Z K (kJ K Y h.nx kind c a p.1 p.2) h.df (G (Frame.enter P g vs kind) (c::a)) w:=by
 unfold E8 at e;split at e
 .cases e
 .rename_i f m
  have R:=lV FF m x y;cases t:E.small.any (Nat.beq g)with
  |false=>
   rw[t]at e;exact hr K Y w _ c a f h p.1 p.2 j e S R s l
  |true=>
   rw[t]at e;simp only[bG]at e;split at e
   .rename_i q z
    cases e;have k:vJ K Y (λi o=>h.tr.get i=some o) w:=S.toM λ_ _ h _=>h;have A:=k.less (X:=λi=>(h.sub args).tr.get i=none) (h:=h.sub args) (λi o e _=>⟨ab4 e,by rw[e];simp⟩);have W:=hr (Ctx.less K Y (λi o=>h.tr.get i=some o) (λi=>(h.sub args).tr.get i=none) w k.lo k.lt) Y w _ c a f (h.sub args) q.1 q.2 ⟨j.P,j.mem,j.pk⟩ z A R s l;refine W.frame uQ (Kept.refl _ _ _) ?_
    rintro H g' w' b ⟨ι',u,rfl,v,B,C,rfl⟩
    have D:Ext Y ι':=v.ext l;have n:=k.more B D b (M':=λi o=>(h.over (h.sub args) q.2).tr.get i=some o) (λi o e _=>by
     rcases zh e with h1|⟨h1,F⟩
     .exact .inl h1
     .exact .inr ⟨F,h1⟩)
    exact⟨ι',u,rfl,v,n.QH λ_ _ h _=>h,C,rfl⟩
   .cases e
def Oi(P:Program)(Z:Bool)(E:Env)(g:FuncId)(args:List AV)(d:Bool)(h:AH)(v:AV)(h':AH):Prop:=
 ∀(K:Ctx) (Y:Nm) (w:World) (vs:Array Value) (c:Frame) (a:List Frame),Of K P E->Sat K Y h w->dS Y args vs.toList->(d=true->Calm c)->Free Y h.nx h'.nx->
  Walk P Z K (kJ K Y h.nx (if d then .deferred else .normal) c a v h') h.df (G (Frame.enter P g vs (if d then .deferred else .normal)) (c::a)) w
def ahk(P:Program)(Z:Bool)(E:Env)(l:Nat)(args:List AV)(h:AH)(v:AV)(h':AH):Prop:=
 ∃g,wQ h l args=some g∧∀(K:Ctx) (Y:Nm) (w:World) (fr c:Frame) (a:List Frame),Of K P E->Sat K Y h w->RF Y g fr->fr.kind= .normal->Free Y h.nx h'.nx->
  Walk P Z K (kJ K Y h.nx fr.kind c a v h') h.df (G fr (c::a)) w
structure EL(P:Program)(Z:Bool)(E:Env)(o:yc):Prop where
 call:∀g args h p,o.call g args h=some p->Oi P Z E g args false h p.1 p.2
 round:∀l args h p,o.round l args h=some p->ahk P Z E l args h p.1 p.2
theorem Oi.Xe{r:nR}(hr:CB P E Z r)(FF:eU P E){d:Bool}{p:AV×AH}(e:E8 E r g args d h=some p):Oi P Z E g args d h p.1 p.2:=
 λK Y w vs c a b S f i j=>CZ hr b FF e S f (by cases d<;>rfl) (λk=>i (by cases d with |true=>rfl|false=>cases k)) j
theorem Jv{r:nR}(hr:CB P E Z r)(FF:eU P E):EL P Z E (outs E r):=by
 refine⟨λg args h p e=>Oi.Xe hr FF e,λl args h p e=>?_⟩;simp only[outs]at e;split at e
 .rename_i g b
  exact⟨g,b,λK Y w fr c a d S R f i=>hr K Y w fr c a g h p.1 p.2 d e S R (by rw[f];intro j;cases j) i⟩
 .cases e
end
end
section
open Go.Conc (G)
variable{b n:Nat}{f f':AF}{fr:Frame}
def A1.Keeps(x:AX):A1->Prop
 | .go f _| .call f _ _ _ _| .dcall f _ _ _| .round f _ _ _ _=>f.x=x
 | .drawn a _ _ _ _ _=>a=x
 | .alts l=>∀p∈l,p.1.x=x
 |_=>True
section
variable{E:Env}{h:AH}{x:AX}{Z:Tr AV}{X W:List AI}{Y:List AD}{r:A1}
theorem JD{j:Option Code}(e:mP x Z X Y h j=some r):r.Keeps x:=by
 unfold mP at e
 repeat' split at e
 all_goals first
  |(cases e;done)
  |(cases e;rfl)
  |(cases e;trivial)
theorem aee(e:OG E x Z X Y h=some r):r.Keeps x:=by
 unfold OG at e
 repeat' split at e
 all_goals first
  |(cases e;done)
  |(cases e;rfl)
  |(cases e;trivial)
theorem aeY{d:Option Tmp}{o:Option OR}(e:YN x Z d W Y o=some r):r.Keeps x:=by
 unfold YN at e;split at e
 .cases e;rfl
 .cases e;trivial
 .cases e
theorem adj{d:Option Tmp}{g:FuncId}{args:List AV}(e:Ll E x Z d W Y h g args=some r):r.Keeps x:=by
 unfold Ll at e;split at e
 .cases e;rfl
 .exact aeY e
 .cases e
theorem afW{o:Oper}(e:opA E x Z W Y h o=some r):r.Keeps x:=by
 unfold opA at e;split at e
 .cases e;rfl
 .cases b:fQ o.op E Z h with
  |none=>rw[b]at e;cases e
  |some q=>
   rw[b]at e;cases q with
   |val v h'=>cases e;rfl
   |call g args=>exact adj (E:=E) e
   |yield l args=>cases e;rfl
   |yU a=>
    simp only[Xm]at e;split at e
    .cases e;rfl
    .cases e
   |alts l=>
    cases e;intro p hp;obtain⟨q,c,rfl⟩:=gU.1 hp;rfl
   |stop=>cases e;trivial
theorem Ym{k:List AI}{ops:Array Oper}{o:Oper}{a:List Oper}(e:qx E x Z Y h k ops o a=some r):r.Keeps x:=by
 unfold qx at e;split at e
 .exact afW e
 .cases e;rfl
 .cases e
theorem OO{k:List AI}{g:Operand}{ps:Array Tmp}{a b:Code}(e:ru E x Z Y h k g ps a b=some r):r.Keeps x:=by
 unfold ru at e;split at e
 .repeat' split at e
  all_goals first
   |(cases e;done)
   |(cases e;rfl)
 .cases e
theorem ada{c:Code}{k:List AI}(e:Ld E c k x Z Y h=some r):r.Keeps x:=by
 cases c with
 |ret=>exact JD (j:=some .ret) e
 |cond c a b=>
  have e:(match ev Z c with
   | .bool t=>some (A1.go ⟨x,Z,.code (cond t a b)::k,Y,false⟩ h)
   |_=>none)=some r:=e
  split at e
  .cases e;rfl
  .cases e
 |exit id=>
  have e:(match AP id k with
   |some k'=>some (A1.go ⟨x,Z,k',Y,false⟩ h)
   |none=>mP x Z (.code (.exit id)::k) Y h (some (.exit id)))=some r:=e
  split at e
  .cases e;rfl
  .exact JD e
 |goto l=>
  have e:(match AB l k with
   |some k'=>some (A1.go ⟨x,Z,k',Y,false⟩ h)
   |none=>mP x Z (.code (.goto l)::k) Y h (some (.goto l)))=some r:=e
  split at e
  .cases e;rfl
  .exact JD e
 |rangeFunc g ps a b=>exact OO (E:=E) e
 |region id ops d=>cases d<;>(cases e;rfl)
 |refuse s=>cases e
 |_=>cases e;rfl
theorem acP{i:AI}{k:List AI}(e:Xv E i k x Z Y h=some r):r.Keeps x:=by
 cases i with
 |code c=>exact ada (E:=E) e
 |inRegion ops l=>
  cases l with
  |nil=>cases e;rfl
  |cons o f=>exact Ym (E:=E) e
 |inRangeFunc id=>cases e
 |endRangeFunc l=>
  have e:(match h.obj l with
   | .loop st p fn nt t ps a b d=>cond (Vx st) none
    (some (A1.go ⟨x,Z,acr p k,Y,false⟩ (h.put l (.loop .exhausted p fn nt t ps a b d))))
   |_=>none)=some r:=e
  split at e
  .rename_i st j fn nt t ps a b d g
   cases st<;>first|(cases e;rfl)|cases e
  .cases e
 |beginRound=>
  have e:(match x.round with
   |some l=>(match h.obj l with
    | .loop .ready p fn nt t ps a b d=>some (A1.go ⟨x,Z,k,Y,false⟩ (h.put l (.loop .busy p fn nt t ps a b d)))
    |_=>none)
   |none=>none)=some r:=e
  repeat' split at e
  all_goals first
   |(cases e;done)
   |(cases e;rfl)
 |_=>first|(cases e;done)|(cases e;rfl)
end
theorem yI{E:Env}{h:AH}{r:A1}(e:iZ E f h=some r):r.Keeps f.x:=by
 obtain⟨x,tm,todo,ds,ret⟩:=f;cases ret with
 |true=>exact aee (E:=E) e
 |false=>
  cases todo with
  |nil=>exact JD (j:=none) e
  |cons i k=>exact acP (E:=E) e
section
variable{P:Program}{Z:Bool}{K:Ctx}{Y:Nm}{h:AH}{w:World}{E:Env}
theorem RF.kinds(R:RF Y f fr):fr.kind= .normal∨fr.kind= .deferred:=by
 rw[R.kind];cases f.x.deferred
 .exact .inl rfl
 .exact .inr rfl
theorem RF.ou{ι':Nm}{a:Frame}(R:RF Y f fr)(b:RF ι' f' a)(c:f'.x=f.x):a.kind=fr.kind:=by
 rw[R.kind,b.kind,c]
theorem kJ.up{ι':Nm}{nx b:Nat}{k:CallKind}{c:Frame}{a:List Frame}{v:AV}{h':AH}{d:Nat}{g:Goroutine}(f:Grow Y ι' nx b)(H:kJ K ι' b k c a v h' d g w):kJ K Y nx k c a v h' d g w:=by
 obtain⟨e,u,h1,i,j⟩:=H;exact⟨e,u,h1,f.trans i,j⟩
theorem adO{r:nR}(hr:CB P E Z r)(d:nR.Up r)(m:Of K P E){c:Frame}{a:List Frame}{h':AH}{v:AV}(R:RF Y f fr)(n:f'.x=f.x){h1:AH}(o:GoTo P Z K Y h w fr (c::a) (λι' b=>RF ι' f' b) h1)
 (e:r f' h1=some (v,h'))(p:fr.kind= .deferred->Calm c)(i:Free Y h.nx h'.nx)(u:h.nx<=h1.nx):
 ∃g' w' es,stepG P Z (G fr (c::a)) w= .go g' w' es∧iG K w w' es∧Walk P Z K (kJ K Y h.nx fr.kind c a v h') (deafBehind h.df es) g' w':=by
 have g:=d _ _ _ _ e;obtain⟨ι',b,w',es,k1,j,q,k,s,t⟩:=o (i.sub (aj _) g);have l:b.kind=fr.kind:=R.ou k n;have W:=hr K ι' w' b c a f' h1 v h' m e q k (by rw[l];exact p) (j.free i);refine⟨_,w',es,k1,s,?_⟩;rw[t];rw[l]at W;exact W.mono λ_ _ _ H=>kJ.up j H
def abS(P:Program)(Z:Bool)(E:Env)(r:Nat->yc):Prop:=∀(K:Ctx) (Y:Nm) (w:World) (x:AX) (tm:Tr AV) (ds:List AD) (ops:Array Oper) (t:Nat) (k':List Item) (fr:Frame) (cs:List Frame) (h:AH) (a:Tr AV) (h':AH),
 Of K P E->Sat K Y h w->iC Y x tm ds ops (Region.linearise .any ops t) k' fr->wS ops.toList (Region.before ops) ops=true->
 uJ E r x (Region.before ops) ops h ops.toList 0 tm [] [] [] h=some (a,h')->Free Y h.nx h'.nx->
 Walk P Z K (λd g w=>∃ι' b,g=G b cs∧Grow Y ι' h.nx h'.nx∧Sat K ι' h' w∧iC ι' x a ds ops [] k' b∧d=h'.df) h.df (G fr cs) w
theorem Ep{r:nR}:∀(l:List (AF×AH)) (v:AV) (h0:AH) (b:AV) (h':AH),zZ r v h0 l=some (b,h')->b=v∧h'.df=h0.df∧h0.nx<=h'.nx∧(∀i o,h'.tr.get i=some o->h0.tr.get i=some o)∧
 ∀p∈l,∃c q n,r p.1 p.2=some c∧wR p.2.nx v n 12 c=(v,q)∧q.df=h0.df∧q.nx<=h'.nx∧∀i o,h'.tr.get i=some o->q.tr.get i=some o
 |[],v,h0,b,h',e=>by cases e;exact⟨rfl,rfl,aj _,λ_ _ h=>h,by simp⟩
 |p::l,v,h0,b,h',e=>by
  unfold zZ at e;split at e
  .rename_i c s
   obtain⟨q,d⟩:∃q,q=wR p.2.nx v h0 12 c:=⟨_,rfl⟩;simp only[← d]at e;cases f:(AV.beq v q.1&&Nat.beq h0.df q.2.df)with
   |false=>rw[f]at e;cases e
   |true=>
    rw[f]at e;rw[aF]at f;have t:=AV.beq_eq f.1;have u:=au f.2;obtain⟨h1,y,k,m,z⟩:=Ep l v _ b h' e;have g:h0.nx<=(h0.meet q.2).nx:=Nat.le_max_left _ _;have j:q.2.nx<=(h0.meet q.2).nx:=Nat.le_max_right _ _;have A:(h0.meet q.2).df=h0.df:=rfl;refine⟨h1,y,aS g k,λi o hi=>(rH (m i o hi)).1,λB a=>?_⟩;rcases ay.1 a with rfl|a
    .exact⟨c,q.2,h0,s,by rw[← d,t],u.symm,aS j k,λi o hi=>(rH (m i o hi)).2⟩
    .exact z B a
  .cases e
theorem kJ.sw{K:Ctx}{Y:Nm}{nx:Nat}{k:CallKind}{c:Frame}{f:List Frame}{v:AV}{h':AH}{d:Nat}{g:Goroutine}{w:World}{a b:Nat}(l:nx<=a)(i:a<h'.nx)(m:nx<=b)(j:b<h'.nx)(q:h'.nx<=OLD)(H:kJ K Y nx k c f v h' d g w):kJ K Y nx k c f (v.sw a b) (h'.sw a b) d g w:=by
 obtain⟨ι',u,e,h1,n,o,p⟩:=H;exact⟨Yc a b ι',u,e,by rw[AH.adM];exact h1.sw l i m j,n.sw (by omega) (by omega),o.sw a b,by rw[AH.afn];exact p⟩
theorem Grow.wider{ι':Nm}{a:Nat}(h:Grow Y ι' n a)(c:a<=b):Grow Y ι' n b:=⟨aS h.le c,λi hi=>h.same i (by omega)⟩
def Oh(Y:Nm):List (AF×Option Tmp)->Frame->List Frame->Frame->List Frame->Prop
 |[],c,b,e,a=>c=e∧b=a
 |q::k,c,b,e,a=>Waits Y q.1 q.2 c∧c.kind= .normal∧∃c1 d,b=c1::d∧Oh Y k c1 d e a
theorem Oh.mono{ι':Nm}(f:Ext Y ι'):∀{k:List (AF×Option Tmp)} {c:Frame} {b:List Frame} {g:Frame} {a:List Frame},Oh Y k c b g a->Oh ι' k c b g a
 |[],_,_,_,_,h=>h
 |_::_,_,_,_,_,⟨h1,i,c1,d,j,l⟩=>⟨λe v u h=>h1 e v u (f.trans h),i,c1,d,j,Oh.mono f l⟩
theorem IU(c:Frame)(u:Value):(c.finish u).kind=c.kind:=by
 unfold Frame.finish
 repeat' split
 all_goals rfl
theorem ab8(F:Fits P E)(FF:eU P E){r:nR}(hr:CB P E Z r)(hup:nR.Up r):∀(n:Nat) (K:Ctx) (Y:Nm) (w:World) (fr c:Frame) (m:List Frame) (U:Frame) (j:List Frame) (f:AF) (k:List (AF×Option Tmp)) (h:AH) (v:AV) (h':AH),
 Of K P E->runK E r n f k h=some (v,h')->Sat K Y h w->RF Y f fr->fr.kind= .normal->Oh Y k c m U j->Free Y h.nx h'.nx->Walk P Z K (kJ K Y h.nx .normal U j v h') h.df (G fr (c::m)) w:=by
 intro n;induction n with
 |zero=>intro K Y w fr c m U j f k h v h' hP e;cases e
 |succ n ih=>
  intro K Y w fr c m U j f k h v h' hP e0 S R hk J L;have e:ET E r (runK E r n) k (iZ E f h)=some (v,h'):=e0;clear e0;cases hs:iZ E f h with
  |none=>rw[hs]at e;cases e
  |some a=>
   have hu:=qo hs;have hx:=yI hs;have ok:∀y,kX K w y->yg P Z K Y h y fr (c::m) a:=λy D=>step_ok hP F FF (S.rely D) R hs;have V:=WW (E:=E) hup n;rw[hs]at e;refine Walk.of rfl λy D=>?_;have S₁:=S.rely D;have t:=ok y D;cases a with
   |go f' h1=>
    have s:=V _ _ _ _ _ e;obtain⟨ι',A,w',es,k1,C,k3,T,X,k6⟩:=t (L.sub (aj _) s);have hk':A.kind= .normal:=(R.ou T hx).trans hk;refine⟨_,w',es,k1,X,?_⟩;rw[k6];exact(ih K ι' w' A c m U j f' k h1 v h' hP e k3 T hk' (J.mono (C.ext (L.sub (aj _) s))) (C.free L)).mono λ_ _ _ H=>kJ.up C H
   |ret v' h1=>
    obtain⟨u,w',es,k1,C,k3,T,X,k6⟩:UE P Z K Y h y fr (c::m) v' h1:=t;rw[uF R.kinds (λhd=>by rw[hk]at hd;cases hd)]at k1;cases k with
    |nil=>
     obtain⟨rfl,rfl⟩:=J;cases e;refine⟨G (back fr.kind c u) m,w',es,by rw[k1];simp[GStep.after],T,.stop λw₂ hr₂=>⟨Y,u,by rw[hk],?_,C.rely hr₂,k3,X⟩⟩;rw[k6];exact Grow.refl _ _
    |cons q k=>
     obtain⟨j1,j2,c1,rest1,rfl,j3⟩:=J;have R2:RF Y (yJ q v') (c.finish u):=j1 Y v' u (Ext.refl Y) k3;refine⟨G (c.finish u) (c1::rest1),w',es,by rw[k1,hk];simp[GStep.after,back],T,?_⟩;have e:runK E r n (yJ q v') k h1=some (v,h'):=e;have W:=ih K Y w' (c.finish u) c1 rest1 U j _ k h1 v h' hP e C R2 ((IU c u).trans j2) j3 (by rw[k6];exact L);rw[k6]at W;rw[X];exact W
   |call f' d g args h1=>
    simp only[ET]at e;cases hb:E.inl.any (Nat.beq g)with
    |true=>
     rw[hb]at e;simp only[bG]at e;split at e
     .rename_i f2 hfe
      have s:=V _ _ _ _ _ e;obtain⟨ι',A,vs,w',es,k1,C,k3,T,⟨X,k5'⟩,k6,k7⟩:=t (L.sub (aj _) s);have hE:=C.ext (L.sub (aj _) s);have R2:RF ι' f2 (Frame.enter P g vs .normal):=lV FF hfe T rfl;have hk':A.kind= .normal:=by
       have R3:=X ι' .any .nilFunc (Ext.refl _) (by unfold RV;trivial);have:=R.ou R3 hx;rw[IU]at this;exact this.trans hk
      refine⟨_,w',es,k1,k6,?_⟩;rw[k7];exact(ih K ι' w' (Frame.enter P g vs .normal) A (c::m) U j f2 ((f',d)::k) h1 v h' hP e k3 R2 rfl ⟨X,hk',c,m,rfl,J.mono hE⟩ (C.free L)).mono λ_ _ _ H=>kJ.up C H
     .cases e
    |false=>
     rw[hb]at e;simp only[bH]at e;split at e
     .rename_i p hp
      have hu1:=vX hup hp;have s:=V _ _ _ _ _ e;have hu:h.nx<=h1.nx:=hu;obtain⟨ι',A,vs,w',es,k1,C,k3,T,⟨X,k5'⟩,k6,k7⟩:=t (L.sub (aj _) (by omega));have hf':=C.free L;refine⟨_,w',es,k1,k6,?_⟩;rw[k7];refine(CZ hr hP FF hp k3 T rfl (λhx=>by cases hx) (hf'.sub (aj _) s)).bind ?_
      rintro d' g' w'' ⟨B,u,rfl,g1,g2,g3,rfl⟩
      have hE:=g1.ext (hf'.sub (aj _) s);have R2:=X B p.1 u hE g3;have O:(A.finish u).kind= .normal:=(R.ou R2 hx).trans hk;have hE0:=C.ext (L.sub (aj _) (by omega));exact(ih K B w'' (A.finish u) c m U j _ k p.2 v h' hP e g2 R2 O (J.mono (hE0.trans hE)) (g1.free hf')).mono λ_ _ _ H=>kJ.up (C.trans g1) H
     .cases e
   |dcall f' g args h1=>cases e
   |round f' d l args h1=>
    obtain⟨rfl,k1,C⟩:=t;simp only[ET]at e;cases hg:wQ h1 l args with
    |none=>simp only[hg]at e;cases e
    |some g=>
     simp only[hg]at e;cases hp:r g h1 with
     |none=>simp only[hp]at e;cases e
     |some p=>
      simp only[hp]at e;have hu1:=hup _ _ p.1 p.2 hp;have s:=V _ _ _ _ _ e;obtain⟨fr2,es,g1,g2,g3,g4⟩:=k1 g hg;refine⟨_,y,es,g1,g2,?_⟩;rw[g3];have hgx:g.x.deferred=false:=by
       unfold wQ at hg;split at hg
       .rename_i st pd fn nt tm' ps a b d hobj
        cases hl:Nat.beq args.length ps.length with
        |false=>rw[hl]at hg;cases hg
        |true=>rw[hl]at hg;cases hg;rfl
       .cases hg
      have O:fr2.kind= .normal:=by rw[g4.kind,hgx];rfl
      have W:=hr K Y y fr2 fr (c::m) g h1 p.1 p.2 hP hp S₁ g4 (by rw[O];intro hx;cases hx) (L.sub (aj _) s);rw[O]at W;refine W.bind ?_
      rintro d' g' w'' ⟨B,u,rfl,j1,j2,j3,rfl⟩
      have hE:=j1.ext (L.sub (aj _) s);have R2:=C B p.1 u hE j3;have O:(fr.finish u).kind= .normal:=(R.ou R2 hx).trans hk;exact(ih K B w'' (fr.finish u) c m U j _ k p.2 v h' hP e j2 R2 O (J.mono hE) (j1.free L)).mono λ_ _ _ H=>kJ.up j1 H
   |drawn x tm ops k ds h1=>cases e
   |alts l=>
    cases l with
    |nil=>cases e
    |cons p l=>
     simp only[ET]at e;split at e
     .rename_i q hq
      obtain⟨m1,m2,m3,m4,m5⟩:=Ep (r:=λf h=>runK E r n f k h) l _ _ _ _ e;subst m1;have all:∀N∈p::l,∃Q q' n' hc,runK E r n N.1 k N.2=some Q∧wR N.2.nx q.1 hc n' Q=(q.1,q')∧q'.df=h'.df∧q'.nx<=h'.nx∧∀i o,h'.tr.get i=some o->q'.tr.get i=some o:=by
       intro N I;rcases ay.1 I with rfl|I
       .exact⟨q,q.2,0,h',hq,rfl,m2.symm,m3,m4⟩
       .obtain⟨Q,q',hc,j1,j1',j2,j3,j4⟩:=m5 N I
        exact⟨Q,q',12,hc,j1,j1',j2.trans m2.symm,j3,j4⟩
      obtain⟨N,I,hgo⟩:=t;obtain⟨Q,q',n',hh,j1,jr,j2,j3,j4⟩:=all N I;have hnx:Q.2.nx=q'.nx:=by have:=G9 N.2.nx q.1 hh n' Q;rw[jr]at this;exact this.symm
      have s:=V _ _ _ Q.1 Q.2 j1;have hf2:=L.sub (aj h.nx) (by rw[hnx];exact j3:Q.2.nx<=h'.nx);obtain⟨ι',A,w',es,k1,C,k3,T,X,k6⟩:=hgo (hf2.sub (aj _) s);have hk':A.kind= .normal:=(R.ou T (hx N I)).trans hk;refine⟨_,w',es,k1,X,?_⟩;rw[k6];refine(ih K ι' w' A c m U j N.1 k N.2 Q.1 Q.2 hP j1 k3 T hk' (J.mono (C.ext (hf2.sub (aj _) s))) (C.free hf2)).mono ?_;intro d' g'' w'' HB;have HB:=kJ.up C HB;have HB2:=G8 (n0:=N.2.nx) (v:=q.1) (h:=hh) (λz=>kJ K Y h.nx .normal U j z.1 z.2 d' g'' w'') n' Q HB (λz a b hz h1 h2 h3 h4 h5=>hz.sw (aS (hu N I) h1) h3 (aS (hu N I) h2) h4 h5);rw[jr]at HB2;obtain⟨B,u,i1,i2,i3,i4,i5⟩:=HB2;exact⟨B,u,i1,i2.wider j3,(i3.toM (M:=λi o=>h'.tr.get i=some o) λi o hi _=>j4 i o hi).QH λ_ _ h _=>h,i4,i5.trans j2⟩
     .cases e
   |stop=>cases e
theorem ZQ(F:Fits P E){r:nR}(hr:CB P E Z r)(b:nR.Up r)(f:Of K P E)(FF:eU P E){g:FuncId}{args:List AV}{vs:Array Value}{p:AV×AH}(e:QZ E r g args h=some p)(S:Sat K Y h w)(i:dS Y args vs.toList)
 {c:Frame}{a:List Frame}(j:Free Y h.nx p.2.nx):
 Walk P Z K (kJ K Y h.nx .normal c a p.1 p.2) h.df (G (Frame.enter P g vs .normal) (c::a)) w:=by
 unfold QZ at e;cases k:E.inl.any (Nat.beq g)with
 |true=>
  rw[k]at e;simp only[bG]at e;split at e
  .rename_i l d
   exact ab8 F FF hr b _ K Y w _ c a c a l [] h p.1 p.2 f e S (lV FF d i rfl) rfl ⟨rfl,rfl⟩ j
  .cases e
 |false=>rw[k]at e;exact CZ hr f FF e S i rfl (λm=>by cases m) j
theorem QM(F:Fits P E)(FF:eU P E){r:nR}(hr:CB P E Z r)(B:nR.Up r)(hD:abS P Z E (λ_=>outs E r)):CB P E Z (λf h=>yh E r (iZ E f h)):=by
 intro K Y w fr c m f h v h' T e0 S R U Q;have e:yh E r (iZ E f h)=some (v,h'):=e0;clear e0;cases hs:iZ E f h with
 |none=>rw[hs]at e;cases e
 |some a=>
  have hu:=qo hs;have hx:=yI hs;have ok:∀s,kX K w s->yg P Z K Y h s fr (c::m) a:=λs D=>step_ok T F FF (S.rely D) R hs;rw[hs]at e;refine Walk.of rfl λs D=>?_;have S₁:=S.rely D;have y:=ok s D;cases a with
  |go f' h1=>exact adO hr B T R hx y e U Q hu
  |ret v' h1=>
   cases e;obtain⟨u,w',es,k1,V,k3,k4,k5,k6⟩:UE P Z K Y h s fr (c::m) v h':=y;rw[uF R.kinds U]at k1;refine⟨G (back fr.kind c u) m,w',es,by rw[k1];simp[GStep.after],k4,.stop λw₂ hr₂=>⟨Y,u,rfl,?_,V.rely hr₂,k3,k5⟩⟩;rw[k6];exact Grow.refl _ _
  |call f' d g args h1=>
   simp only[yh]at e;split at e
   .rename_i p hp
    have hu1:=QY B hp;have C:=B _ _ _ _ e;have hu:h.nx<=h1.nx:=hu;obtain⟨ι',X,vs,w',es,k1,V,k3,k4,⟨k5,k5'⟩,k6,k7⟩:=y (Q.sub (aj _) (by omega));have L:=V.free Q;refine⟨_,w',es,k1,k6,?_⟩;rw[k7];refine(ZQ F hr B T FF hp k3 k4 (L.sub (aj _) C)).bind ?_
    rintro d' g' J ⟨j,u,rfl,g1,g2,g3,rfl⟩
    have hE:=g1.ext (L.sub (aj _) C);have R2:=k5 j p.1 u hE g3;have A:(X.finish u).kind=fr.kind:=R.ou R2 hx;have W:=hr K j J (X.finish u) c m _ p.2 v h' T e g2 R2 (by rw[A];exact U) (g1.free L);rw[A]at W;exact W.mono λ_ _ _ H=>kJ.up (V.trans g1) H
   .cases e
  |dcall f' g args h1=>
   simp only[yh]at e;split at e
   .rename_i p hp
    have hu1:=vX B hp;have C:=B _ _ _ _ e;have hu:h.nx<=h1.nx:=hu;obtain⟨ι',X,vs,w',es,k1,V,k3,k4,⟨k5,k5'⟩,k6,k7⟩:=y (Q.sub (aj _) (by omega));have L:=V.free Q;refine⟨_,w',es,k1,k6,?_⟩;rw[k7];refine(CZ hr T FF hp k3 k4 rfl (λ_ e l hm=>by rw[k5']at hm;cases hm) (L.sub (aj _) C)).bind ?_
    rintro d' g' J ⟨j,u,rfl,g1,g2,g3,rfl⟩
    have hE:=g1.ext (L.sub (aj _) C);have R2:=k5.mono hE;have A:X.kind=fr.kind:=R.ou R2 hx;have W:=hr K j J X c m _ p.2 v h' T e g2 R2 (by rw[A];exact U) (g1.free L);rw[A]at W;exact W.mono λ_ _ _ H=>kJ.up (V.trans g1) H
   .cases e
  |round f' d l args h1=>
   obtain⟨rfl,k1,V⟩:=y;simp only[yh]at e;cases hg:wQ h1 l args with
   |none=>simp only[hg]at e;cases e
   |some g=>
    simp only[hg]at e;cases hp:r g h1 with
    |none=>simp only[hp]at e;cases e
    |some p=>
     simp only[hp]at e;have hu1:=B _ _ p.1 p.2 hp;have C:=B _ _ _ _ e;obtain⟨fr2,es,g1,g2,g3,g4⟩:=k1 g hg;refine⟨_,s,es,g1,g2,?_⟩;rw[g3];have hgx:g.x.deferred=false:=by
      unfold wQ at hg;split at hg
      .rename_i st pd fn nt tm' ps a b d hobj
       cases hl:Nat.beq args.length ps.length with
       |false=>rw[hl]at hg;cases hg
       |true=>rw[hl]at hg;cases hg;rfl
      .cases hg
     have A:fr2.kind= .normal:=by rw[g4.kind,hgx];rfl
     have W:=hr K Y s fr2 fr (c::m) g h1 p.1 p.2 T hp S₁ g4 (by rw[A];intro hx;cases hx) (Q.sub (aj _) C);rw[A]at W;refine W.bind ?_
     rintro d' g' J ⟨j,u,rfl,j1,j2,N,rfl⟩
     have hE:=j1.ext (Q.sub (aj _) C);have R2:=V j p.1 u hE N;have A:(fr.finish u).kind=fr.kind:=R.ou R2 hx;have W:=hr K j J (fr.finish u) c m _ p.2 v h' T e j2 R2 (by rw[A];exact U) (j1.free Q);rw[A]at W;exact W.mono λ_ _ _ H=>kJ.up j1 H
  |drawn x tm ops k ds h1=>
   obtain⟨rfl,t,d,k',k1,V,k3⟩:=y;simp only[yh]at e;cases hb:wS ops.toList (Region.before ops) ops with
   |false=>rw[hb]at e;cases e
   |true=>
    rw[hb]at e;simp only[bG]at e;split at e
    .rename_i p hp
     have hu1:=OE (λ_=>Di B) _ _ _ _ _ _ _ _ hp;have C:=B _ _ _ _ e;refine⟨_,_,#[],k1,iG.drawn s d,?_⟩;have W:=hD K Y { s with drawn:=d } x tm ds ops t k' _ (c::m) h1 p.1 p.2 T (S₁.drawn d) k3 hb hp (Q.sub (aj _) C);refine W.bind ?_
     rintro d' g' J ⟨j,fr'',rfl,j1,j2,N,rfl⟩
     have hE:=j1.ext (Q.sub (aj _) C);refine Walk.of rfl λw₃ hr₃=>?_;have ht:=N.todo;have hm:=N.mode;refine⟨G { fr'' with todo:=k' } (c::m),w₃,#[],by simp[G,stepG,hm,stepG.exec,ht],iG.refl w₃,?_⟩;have R2:RF j ⟨x,p.1,k,ds,false⟩ { fr'' with todo:=k' }:=⟨N.fn,N.tm,V.mono hE,N.ds,by simpa using N.mode,N.kind,N.round⟩;have A:({ fr'' with todo:=k' }:Frame).kind=fr.kind:=R.ou R2 hx;have W:=hr K j w₃ _ c m _ p.2 v h' T e (j2.rely hr₃) R2 (by rw[A];exact U) (j1.free Q);exact W.mono λ_ _ _ H=>kJ.up j1 (by rw[A]at H;exact H)
    .cases e
  |alts l=>
   cases l with
   |nil=>cases e
   |cons p l=>
    simp only[yh]at e;split at e
    .rename_i q hq
     obtain⟨m1,m2,m3,m4,m5⟩:=Ep l _ _ _ _ e;subst m1;have all:∀O∈p::l,∃q0 q' n U,r O.1 O.2=some q0∧wR O.2.nx q.1 U n q0=(q.1,q')∧q'.df=h'.df∧q'.nx<=h'.nx∧∀i o,h'.tr.get i=some o->q'.tr.get i=some o:=by
      intro O I;rcases ay.1 I with rfl|I
      .exact⟨q,q.2,0,h',hq,rfl,m2.symm,m3,m4⟩
      .obtain⟨q0,q',U,j1,j1',j2,N,j4⟩:=m5 O I
       exact⟨q0,q',12,U,j1,j1',j2.trans m2.symm,N,j4⟩
     obtain⟨O,I,hgo⟩:=y;obtain⟨q0,q',n,hh,j1,jr,j2,N,j4⟩:=all O I;have hnx:q0.2.nx=q'.nx:=by have:=G9 O.2.nx q.1 hh n q0;rw[jr]at this;exact this.symm
     obtain⟨g',w',es,n1,n2,n3⟩:=adO hr B T R (hx O I) hgo j1 U (Q.sub (aj _) (by rw[hnx];exact N)) (hu O I);refine⟨g',w',es,n1,n2,n3.mono ?_⟩;intro d' g'' J HB;have HB2:=G8 (n0:=O.2.nx) (v:=q.1) (h:=hh) (λz=>kJ K Y h.nx fr.kind c m z.1 z.2 d' g'' J) n q0 HB (λz a b hz h1 h2 h3 h4 h5=>hz.sw (aS (hu O I) h1) h3 (aS (hu O I) h2) h4 h5);rw[jr]at HB2;obtain⟨j,u,i1,i2,i3,i4,i5⟩:=HB2;exact⟨j,u,i1,i2.wider N,(i3.toM (M:=λi o=>h'.tr.get i=some o) λi o hi _=>j4 i o hi).QH λ_ _ h _=>h,i4,i5.trans j2⟩
    .cases e
  |stop=>cases e
end
end
section
open Go.Conc (G)
variable{α:Type}{i j nt:Nat}{tmps:Array Value}{ι:Nm}
theorem Tr.D5{x:α}{t:Tr α}(h:i<1000000):(t.set i x).get j=if j=i then some x else t.get j:=
 (λ_=>Tr.KN t i j x) h
theorem Aj{x:AX}{d:Option Tmp}{v:AV}{tm:Tr AV}{t:Nat}(h:∀i,d=some i->i<1000000):(fin x d v tm).get t=if d=some t then some (cond (Nat.blt t x.nt) v iw)else tm.get t:=by
 cases d with
 |none=>simp[fin]
 |some i=>
  simp only[fin];rw[Tr.D5 (h i rfl)];by_cases a:t=i
  .rw[aC a,aC (by rw[a]),a]
  .rw[ah a,ah (by intro e;cases e;exact a rfl)]
theorem RT.congr{tm tm':Tr AV}(h:RT ι nt tm tmps)(b:∀t,tm'.get t=tm.get t):RT ι nt tm' tmps:=⟨h.1,λt a c=>h.2 t a (by rw[← b];exact c)⟩
def Alike(tm tm':Tr AV)(l:List Operand):Prop:=∀y∈l,ev tm y=ev tm' y
theorem wI{tm tm':Tr AV}:∀{l:List Operand},Alike tm tm' l->evs tm l=evs tm' l
 |[],_=>rfl
 |y::l,h=>by
  unfold evs;rw[h y (by simp),wI (l:=l) λz a=>h z (by simp[a])]
theorem Ii{tm tm':Tr AV}:∀{l:List (Nat×Operand)},Alike tm tm' (l.map (·.2))->UO tm l=UO tm' l
 |[],_=>rfl
 |y::l,h=>by
  unfold UO;rw[h y.2 (by simp),Ii (l:=l) λz a=>h z (by simp at a ⊢;exact .inr a)]
theorem DI{tm tm':Tr AV}{o:Option Operand}(h:∀y,o=some y->ev tm y=ev tm' y):PO tm o=PO tm' o:=by
 cases o with
 |none=>rfl
 |some y=>show some (ev tm y)=some (ev tm' y);rw[h y rfl]
section
variable{E:Env}{Y Z:Tr AV}{h h':AH}
theorem IG{op:Op}(e:Alike Y Z op.operands.toList):fD op E Y h=fD op E Z h:=by
 cases op
 case move x=>show some (ev Y x)=some (ev Z x);rw[e x (by simp[Op.operands])]
 case assign x=>show some (ev Y x)=some (ev Z x);rw[e x (by simp[Op.operands])]
 case pick c a b=>
  show(match ev Y c with | .bool t=>some (cond t (ev Y a) (ev Y b))|_=>none)=(match ev Z c with | .bool t=>some (cond t (ev Z a) (ev Z b))|_=>none);rw[e c (by simp[Op.operands]),e a (by simp[Op.operands]),e b (by simp[Op.operands])]
 case build t ps=>
  show Ls E t (UO Y ps.toList)=Ls E t (UO Z ps.toList);rw[Ii (λy f=>e y (by simpa[Op.operands]using f))]
 case load t a=>
  show(match ev Y a with | .ptr id off=>loadT E h t id off|_=>none)=(match ev Z a with | .ptr id off=>loadT E h t id off|_=>none);rw[e a (by simp[Op.operands])]
 case nilCheck x=>show zi (ev Y x)=zi (ev Z x);rw[e x (by simp[Op.operands])]
 case binOp op t x y j=>show abw E op t x y (unB (ev Y x)) (unB (ev Y y))=abw E op t x y (unB (ev Z x)) (unB (ev Z y));rw[e x (by simp[Op.operands]),e y (by simp[Op.operands])]
 case unOp op t x=>show unA op (ev Y x)=unA op (ev Z x);rw[e x (by simp[Op.operands])]
 case convert s d x=>show TW E s d (ev Y x)=TW E s d (ev Z x);rw[e x (by simp[Op.operands])]
 case makeInterface t x=>show wX E t (ev Y x)=wX E t (ev Z x);rw[e x (by simp[Op.operands])]
 case makeFunc g a b=>
  have h1:=wI (l:=a.toList) (λy f=>e y (by simp only[Op.operands,dP];exact bQ.2 (.inl f)));have k:=wI (l:=b.toList) (λy f=>e y (by simp only[Op.operands,dP];exact bQ.2 (.inr f)));clear e;cases g<;>try rfl
  show some (AV.fn _ (evs Y a.toList) (evs Y b.toList))=some (AV.fn _ (evs Z a.toList) (evs Z b.toList));rw[h1,k]
 case slice t x lo hi mx=>
  show gQ E t (nP E (ev Y x)) (PO Y lo) (PO Y hi) (PO Y mx)=gQ E t (nP E (ev Z x)) (PO Z lo) (PO Z hi) (PO Z mx);rw[e x (by simp[Op.operands]),DI (o:=lo) (λy f=>e y (by subst f;simp[Op.operands])),DI (o:=hi) (λy f=>e y (by subst f;simp[Op.operands])),DI (o:=mx) (λy f=>e y (by subst f;simp[Op.operands]))]
 case fieldAddr s x i=>show xk E s (ev Y x) i=xk E s (ev Z x) i;rw[e x (by simp[Op.operands])]
 case field s x i=>show KT E s (ev Y x) i=KT E s (ev Z x) i;rw[e x (by simp[Op.operands])]
 case indexAddr t x i=>show aZ E t (nP E (ev Y x)) (ev Y i)=aZ E t (nP E (ev Z x)) (ev Z i);rw[e x (by simp[Op.operands]),e i (by simp[Op.operands])]
 case index t x i=>show Ag E t (ev Y x) (ev Y i)=Ag E t (ev Z x) (ev Z i);rw[e x (by simp[Op.operands]),e i (by simp[Op.operands])]
 case lookup t x i ok=>show yx E h t (ev Y x) (ev Y i) ok=yx E h t (ev Z x) (ev Z i) ok;rw[e x (by simp[Op.operands]),e i (by simp[Op.operands])]
 case entry it=>show BN h (ev Y it)=BN h (ev Z it);rw[e it (by simp[Op.operands])]
 case typeAssert x t j ok=>show Gi E j (ev Y x) ok=Gi E j (ev Z x) ok;rw[e x (by simp[Op.operands])]
 case extract x i=>show BL (ev Y x) i=BL (ev Z x) i;rw[e x (by simp[Op.operands])]
 case call c=>
  show(match I4 c with |some b=>wU E h b (evs Y c.args.toList) c.argTypes.toList|none=>none)=(match I4 c with |some b=>wU E h b (evs Z c.args.toList) c.argTypes.toList|none=>none);rw[wI (λy f=>e y (by simp only[Op.operands,Call.operands,dP];exact bQ.2 (.inr f)))]
 all_goals rfl
theorem Es{op:Op}(e:Alike Y Z op.operands.toList):fQ op E Y h=fQ op E Z h:=by
 cases op
 case box t x=>show Gh E h t (ev Y x)=Gh E h t (ev Z x);rw[e x (by simp[Op.operands])]
 case buildSlice t l ps=>
  show jh E h t l (UO Y ps.toList)=jh E h t l (UO Z ps.toList);rw[Ii (λy i=>e y (by simpa[Op.operands]using i))]
 case store t a x=>show jH E h t (ev Y a) (ev Y x)=jH E h t (ev Z a) (ev Z x);rw[e x (by simp[Op.operands]),e a (by simp[Op.operands])]
 case insert t m k x=>show jO E h t (ev Y m) (ev Y k) (ev Y x)=jO E h t (ev Z m) (ev Z k) (ev Z x);rw[e x (by simp[Op.operands]),e m (by simp[Op.operands]),e k (by simp[Op.operands])]
 case mapUpdate t m k x=>show jO E h t (ev Y m) (ev Y k) (ev Y x)=jO E h t (ev Z m) (ev Z k) (ev Z x);rw[e x (by simp[Op.operands]),e m (by simp[Op.operands]),e k (by simp[Op.operands])]
 case mapEntry t m k=>show oU E h t (ev Y m) (ev Y k)=oU E h t (ev Z m) (ev Z k);rw[e m (by simp[Op.operands]),e k (by simp[Op.operands])]
 case entryStore t m s x=>show lJ h (ev Y m) (ev Y s) (ev Y x)=lJ h (ev Z m) (ev Z s) (ev Z x);rw[e x (by simp[Op.operands]),e m (by simp[Op.operands]),e s (by simp[Op.operands])]
 case convert s d x=>show IY E s d (ev Y x) h=IY E s d (ev Z x) h;rw[e x (by simp[Op.operands])]
 case makeMap t r=>show lg E h t (PO Y r)=lg E h t (PO Z r);rw[DI (o:=r) (λy i=>e y (by subst i;simp[Op.operands]))]
 case makeSlice t l c=>show iy E h t (ev Y l) (ev Y c)=iy E h t (ev Z l) (ev Z c);rw[e l (by simp[Op.operands]),e c (by simp[Op.operands])]
 case range t x=>show yK E h t (ev Y x)=yK E h t (ev Z x);rw[e x (by simp[Op.operands])]
 case next it isS=>show IK h (ev Y it) isS=IK h (ev Z it) isS;rw[e it (by simp[Op.operands])]
 case call c=>
  show D8 c E Y h=D8 c E Z h;have h1:evs Y c.args.toList=evs Z c.args.toList:=wI (λy i=>e y (by simp only[Op.operands,Call.operands,dP];exact bQ.2 (.inr i)));unfold D8;cases n:c.callee with
  |builtin b=>simp only[h1]
  |value g=>
   have j:ev Y g=ev Z g:=e g (by simp only[Op.operands,Call.operands,dP,n];exact bQ.2 (.inl (by simp)));simp only[h1,j]
  |invoke r m=>
   have j:ev Y r=ev Z r:=e r (by simp only[Op.operands,Call.operands,dP,n];exact bQ.2 (.inl (by simp)));simp only[h1,j]
 case defer c=>
  have h1:evs Y c.args.toList=evs Z c.args.toList:=wI (λy i=>e y (by simp only[Op.operands,Call.operands,dP];exact bQ.2 (.inr i)));show(match c.callee with
   | .value g=>(match ev Y g with
     | .fn f a b=>some (OR.yU ⟨.fn f a b,evs Y c.args.toList⟩)
     |_=>none)
   |_=>none)=(match c.callee with
   | .value g=>(match ev Z g with
     | .fn f a b=>some (OR.yU ⟨.fn f a b,evs Z c.args.toList⟩)
     |_=>none)
   |_=>none)
  cases n:c.callee with
  |value g=>
   have j:ev Y g=ev Z g:=e g (by simp only[Op.operands,Call.operands,dP,n];exact bQ.2 (.inl (by simp)));simp only[h1,j]
  |_=>rfl
 all_goals rfl
theorem Q9{op:Op}(hr:kG op=false):fD op E Y h=fD op E Y h':=by
 cases op<;>first|rfl|cases hr
theorem O4(a:h.tr=h'.tr)(i:Nat):h.obj i=h'.obj i:=by unfold AH.obj;rw[a]
theorem aay(a:h.tr=h'.tr)(t:TypeId)(i o:Nat):loadT E h t i o=loadT E h' t i o:=by
 unfold loadT jA;rw[O4 a]
theorem ZX (ht : h.tr = h'.tr) {op : Op} : fD op E Y h = fD op E Y h' := by
 cases op
 case load t a =>
  show (match ev Y a with | .ptr id off => loadT E h t id off | _ => none) = (match ev Y a with | .ptr id off => loadT E h' t id off | _ => none)
  cases ev Y a <;> first | rfl | exact aay ht _ _ _
 case lookup t x i ok =>
  show yx E h t (ev Y x) (ev Y i) ok = yx E h' t (ev Y x) (ev Y i) ok
  have : ∀ x, RY h x = RY h' x := fun x => by unfold RY; cases x <;> first | rfl | simp only [O4 ht]
  unfold yx
  simp only [this]
 case entry it =>
  show BN h (ev Y it) = BN h' (ev Y it)
  unfold BN
  simp only [O4 ht]
 case call c =>
  show (match I4 c with | some b => wU E h b (evs Y c.args.toList) c.argTypes.toList | none => none) = (match I4 c with | some b => wU E h' b (evs Y c.args.toList) c.argTypes.toList | none => none)
  have : ∀ t x, YE E h t x = YE E h' t x := fun t x => by unfold YE; simp only [O4 ht]
  have h2 : ∀ b as ts, wU E h b as ts = wU E h' b as ts := fun b as ts => by unfold wU; simp only [this]
  simp only [h2]
 all_goals rfl
theorem Ad{op:Op}(y:jZ op=true){v:AV}(e:fQ op E Y h=some (.val v h')):∃o,h'=h.new o∧o.live∧∀d:AH,d.nx=h.nx->fQ op E Y d=some (.val v (d.new o)):=by
 cases op<;>try (cases y;done)
 case alloc t=>
  have e:vH E h t=some (.val v h'):=e;unfold vH at e;split at e
  .rename_i ti s
   cases e;refine⟨_,rfl,trivial,λd f=>?_⟩;show vH E d t=_;unfold vH;rw[s,f]
  .cases e
 case box t x=>
  have e:Gh E h t (ev Y x)=some (.val v h'):=e;unfold Gh at e;split at e
  .rename_i ti s
   cases u:(ev Y x).isAny with
   |true=>rw[u]at e;cases e
   |false=>
    rw[u]at e;cases e;refine⟨_,rfl,trivial,λd f=>?_⟩;show Gh E d t (ev Y x)=_;unfold Gh;rw[s,u,f];rfl
  .cases e
 case buildSlice t l ps=>
  have e:jh E h t l (UO Y ps.toList)=some (.val v h'):=e;unfold jh at e;split at e
  .rename_i el p
   split at e
   .rename_i j w
    cases g:Nat.blt 65536 (l*j.size)with
    |true=>rw[g]at e;cases e
    |false=>
     rw[g]at e;simp only[bH]at e;cases q:BJ (λi=>some (i*j.size,j.size)) (rep l j.zero) (UO Y ps.toList)with
     |none=>rw[q]at e;cases e
     |some cs=>
      rw[q]at e;cases e;refine⟨_,rfl,trivial,λd f=>?_⟩;show jh E d t l (UO Y ps.toList)=_;unfold jh;rw[p];simp only[w,g,q,f];rfl
   .cases e
  .cases e
 case makeSlice t l c=>
  have e:iy E h t (ev Y l) (ev Y c)=some (.val v h'):=e;unfold iy at e;split at e
  .rename_i el k1 n A m p z q
   split at e
   .rename_i j w
    cases g:(decide (0<=n∧n<=m∧m<=1048576)&&Nat.ble j.bytes 4096)with
    |false=>rw[g]at e;cases e
    |true=>
     rw[g]at e;cases e;refine⟨_,rfl,trivial,λd f=>?_⟩;show iy E d t (ev Y l) (ev Y c)=_;unfold iy;rw[p,z,q];simp only[w,g,f];rfl
   .cases e
  .cases e
 case makeMap t r=>
  have e:lg E h t (PO Y r)=some (.val v h'):=e;unfold lg at e;split at e
  .rename_i hr
   cases e;refine⟨_,rfl,trivial,λd f=>?_⟩;show lg E d t (PO Y r)=_;rw[hr];unfold lg;rw[f]
  .rename_i k n hr
   split at e
   .rename_i a b p
    cases e;refine⟨_,rfl,trivial,λd f=>?_⟩;show lg E d t (PO Y r)=_;rw[hr];unfold lg;simp only[p,f]
   .cases e
  .cases e
end
end
end Go.Ev
