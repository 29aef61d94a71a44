/- A part of the proof that ProofBack returns true. -/
import Derived.Test.YtencnjmceojnjaaGreatDoorMyEv3
import Derived.Test.YtencnjmceojnjaaGreatDoorMyEv1
import Derived.Conc.Own2
import Derived.KernelRfl
set_option linter.all false
namespace Go.Ev
set_option maxRecDepth 100000
section
open Go.Conc (G)
variable{d j n n':Nat}{w:World}
structure OS where
 f:AF
 k:List (AF×Option Tmp)
 h:AH
noncomputable def aef(f:AF)(d:Option Tmp)(v:AV):AF:=match f with |⟨x,tm,td,ds,_⟩=>⟨x,fin x d v tm,td,ds,false⟩
def Ce(ops:Array Oper):Nat->Array Bool->List (List Nat)
 |0,_=>[[]]
 |n+1,listed=>match Region.ready .any ops listed with
  |[]=>[[]]
  |i::l=>(i::l).flatMap λi=>(Ce ops n (listed.setIfInBounds i true)).map (i::·)
def FC(ops:Array Oper)(n:Nat):Array Bool:=(Array.range ops.size).map λi=>decide (i<n)
def aeL(ops:Array Oper)(n:Nat):List (List Nat):=Ce ops ops.size (FC ops n)
noncomputable def Bg(E:Env)(x:AX)(ops:Array Oper)(h:AH):List Nat->Tr AV->Tr AV×List Nat
 |[],tm=>(tm,[])
 |i::l,tm=>match ops[i]? with
  |none=>(tm,i::l)
  |some o=>match dU o ops tm with
   |none=>(tm,i::l)
   |some false=>Bg E x ops h l (fin x o.dst iw tm)
   |some true=>match fD o.op E tm h with
    |some v=>Bg E x ops h l (fin x o.dst v tm)
    |none=>(tm,i::l)
noncomputable def J6(E:Env)(x:AX)(ops:Array Oper):List Nat->Tr AV->AH->Option (Tr AV×AH)
 |[],tm,h=>some (tm,h)
 |i::l,tm,h=>match ops[i]? with
  |none=>none
  |some o=>match dU o ops tm with
   |none=>none
   |some false=>J6 E x ops l (fin x o.dst iw tm) h
   |some true=>match fD o.op E tm h with
    |some v=>J6 E x ops l (fin x o.dst v tm) h
    |none=>match fQ o.op E tm h with
     |some (.val v h')=>J6 E x ops l (fin x o.dst v tm) h'
     |_=>none
mutual
def AV.eqv:AV->AV->Bool
 | .any,.any=>true
 | .one,.one=>true
 | .bool a,.bool b=>a==b
 | .int k a,.int j b=>k==j&&a==b
 | .str a,.str b=>a==b
 | .pO,.pO=>true
 | .ptr a b,.ptr c d=>Nat.beq a c&&Nat.beq b d
 | .aQ,.aQ=>true
 | .emp,.emp=>true
 | .sl a b c d,.sl x y z u=>Nat.beq a x&&Nat.beq b y&&Nat.beq c z&&d==u
 | .pF,.pF=>true
 | .map a,.map b=>Nat.beq a b
 | .um,.um=>true
 | .fn f a b,.fn g c d=>Nat.beq f g&&AV.VE a c&&AV.VE b d
 | .yield a,.yield b=>Nat.beq a b
 | .uj,.uj=>true
 | .iface t a,.iface u b=>Nat.beq t u&&AV.eqv a b
 | .agg a,.agg b=>AV.VE a b
 | .gI a,.gI b=>AV.VE a b
 |_,_=>false
def AV.VE:List AV->List AV->Bool
 |[],[]=>true
 |a::l,b::m=>AV.eqv a b&&AV.VE l m
 |_,_=>false
end
def Tr.eqv:Tr AV->Tr AV->Bool
 | .e,.e=>true
 | .n l v r,.n c d f=>Tr.eqv l c&&(match v,d with |none,none=>true|some a,some b=>AV.eqv a b|_,_=>false)&&Tr.eqv r f
 |_,_=>false
def Xh:List Nat->List Nat->Bool
 |[],[]=>true
 |a::l,b::m=>Nat.beq a b&&Xh l m
 |_,_=>false
noncomputable def ad9(E:Env)(x:AX)(ops:Array Oper)(n:Nat)(tm:Tr AV)(h:AH):Option (Tr AV×AH):=
 match aeL ops n with
 |[]=>none
 |a::b=>cond (b.all λl=>Xh (Bg E x ops h l tm).2 (Bg E x ops h a tm).2&&Tr.eqv (Bg E x ops h l tm).1 (Bg E x ops h a tm).1) (J6 E x ops (Bg E x ops h a tm).2 (Bg E x ops h a tm).1 h) none
def afV(out:List FuncId)(ops:Array Oper):Option Nat:=
 ops.toList.findIdx? λo=>match o.op with | .call c=>(match c.callee with | .value (.func g)=>out.any (Nat.beq g)|_=>false)|_=>false
def ag2(ops:Array Oper)(b:Array Nat)(j:Nat):Bool:=
 (List.range ops.size).all λi=>cond (Nat.blt i j) true ((List.range (cond (Nat.beq i j) j (j+1))).all λp=>(b.getD i 0).testBit p)
noncomputable def adN(E:Env)(r:nR)(out:List FuncId)(j:Nat)(x:AX)(tm:Tr AV)(ops:Array Oper)(k0:List AI)(ds:List AD)(k:List (AF×Option Tmp))(h:AH):Option OS:=
 cond (ag2 ops (Region.before ops) j) (match uJ E (λ_=>outs E r) x (Region.before ops) ops h (ops.toList.take j) 0 tm [] [] [] h,ops[j]? with
  |some p,some o=>(match dU o ops p.1,fQ o.op E p.1 p.2 with
   |some true,some (.call g args)=>cond (out.any (Nat.beq g)) (match jJ E g args false with |some a=>some ⟨a,(⟨x,p.1,.uz ops (j+1)::k0,ds,false⟩,o.dst)::k,p.2⟩|none=>none) none
   |_,_=>none)
  |_,_=>none) none
noncomputable def QN(E:Env)(r:nR)(out:List FuncId)(s:OS):Option OS:=
 match s with
 |⟨f,k,h⟩=>match iZ E f h with
  |some (.go f' h')=>some ⟨f',k,h'⟩
  |some (.call f' d g args h')=>cond (out.any (Nat.beq g))
   (match jJ E g args false with |some a=>some ⟨a,(f',d)::k,h'⟩|none=>none)
   (match E8 E r g args false h' with |some p=>some ⟨aef f' d p.1,k,p.2⟩|none=>none)
  |some (.dcall f' g args h')=>cond (out.any (Nat.beq g)) none (match E8 E r g args true h' with |some p=>some ⟨f',k,p.2⟩|none=>none)
  |some (.drawn x tm ops k0 ds h')=>cond (wS ops.toList (Region.before ops) ops) (match afV out ops with
   |some j=>adN E r out j x tm ops k0 ds k h'
   |none=>(match uJ E (λ_=>outs E r) x (Region.before ops) ops h' ops.toList 0 tm [] [] [] h' with
    |some p=>some ⟨⟨x,p.1,k0,ds,false⟩,k,p.2⟩
    |none=>none)) none
  |some (.ret v h')=>(match k with
   |(f',d)::k'=>cond f.x.deferred none (some ⟨aef f' d v,k',h'⟩)
   |[]=>none)
  |none=>(match f with
   |⟨x,tm,.uz ops n::k0,ds,false⟩=>(match ad9 E x ops n tm h with
    |some p=>some ⟨⟨x,p.1,k0,ds,false⟩,k,p.2⟩
    |none=>none)
   |_=>none)
  |_=>none
mutual
theorem AV.Ew:∀{a b:AV},AV.eqv a b=true->a=b
 | .any,.any,_=>rfl
 | .one,.one,_=>rfl
 | .bool a,.bool b,h=>by simp[AV.eqv]at h;rw[h]
 | .int k a,.int j b,h=>by
   simp only[AV.eqv,aF]at h;have h1:k=j:=by have:=h.1;revert this;cases k<;>cases j<;>first|(intro _;rfl)|(intro h;cases h)
   have e:a=b:=by simpa using h.2
   rw[h1,e]
 | .str a,.str b,h=>by simp[AV.eqv]at h;rw[h]
 | .pO,.pO,_=>rfl
 | .ptr a b,.ptr c d,h=>by
   simp only[AV.eqv,aF]at h;rw[au h.1,au h.2]
 | .aQ,.aQ,_=>rfl
 | .emp,.emp,_=>rfl
 | .sl a b c d,.sl x y z u,h=>by
   simp only[AV.eqv,aF]at h;rw[au h.1.1.1,au h.1.1.2,au h.1.2,show d=u by simpa using h.2]
 | .pF,.pF,_=>rfl
 | .map a,.map b,h=>by simp only[AV.eqv]at h;rw[au h]
 | .um,.um,_=>rfl
 | .fn f a b,.fn g c d,h=>by
   simp only[AV.eqv,aF]at h;rw[au h.1.1,AV.F6 h.1.2,AV.F6 h.2]
 | .yield a,.yield b,h=>by simp only[AV.eqv]at h;rw[au h]
 | .uj,.uj,_=>rfl
 | .iface t a,.iface u b,h=>by
   simp only[AV.eqv,aF]at h;rw[au h.1,AV.Ew h.2]
 | .agg a,.agg b,h=>by simp only[AV.eqv]at h;rw[AV.F6 h]
 | .gI a,.gI b,h=>by simp only[AV.eqv]at h;rw[AV.F6 h]
theorem AV.F6:∀{a b:List AV},AV.VE a b=true->a=b
 |[],[],_=>rfl
 |a::l,b::m,h=>by
  simp only[AV.VE,aF]at h;rw[AV.Ew h.1,AV.F6 h.2]
end
theorem Tr.Ew:∀{a b:Tr AV},Tr.eqv a b=true->a=b
 | .e,.e,_=>rfl
 | .n l v r,.n f d g,h=>by
   simp only[Tr.eqv,aF]at h;rw[Tr.Ew h.1.1,Tr.Ew h.2];have c:=h.1.2;cases v with
   |none=>cases d with
    |none=>rfl
    |some b=>cases c
   |some a=>cases d with
    |none=>cases c
    |some b=>rw[AV.Ew c]
theorem RJ:∀{a b:List Nat},Xh a b=true->a=b
 |[],[],_=>rfl
 |a::l,b::m,h=>by
  simp only[Xh,aF]at h;rw[au h.1,RJ h.2]
theorem VQ{ops:Array Oper}:∀(b t:Nat) (listed:Array Bool) (F:Nat),listed.size=ops.size->left' ops.size listed<=b->left' ops.size listed<=F->Region.linearise.go .any ops b t listed []∈Ce ops F listed:=by
 intro b;induction b with
 |zero=>
  intro t listed F c e _;have hr:Region.ready .any ops listed=[]:=by
   cases hr:Region.ready .any ops listed with
   |nil=>rfl
   |cons i l=>
    obtain⟨h1,d,_⟩:=(mem_ready c (i:=i)).1 (by rw[hr];simp);have:i∈(List.range ops.size).filter λi=>Dl listed i==false:=iR.2 ⟨iO.2 h1,by rw[d];rfl⟩;have:=List.length_pos_of_mem this;unfold left' at e;omega
  have:Region.linearise.go .any ops 0 t listed []=[]:=rfl;rw[this];cases F with
  |zero=>simp[Ce]
  |succ F=>unfold Ce;rw[hr];simp
 |succ b g=>
  intro t listed F c e m;rcases BG ops b t listed with⟨h1,d⟩|⟨i,h1,d⟩
  .rw[d]
   cases F with
   |zero=>simp[Ce]
   |succ F=>unfold Ce;rw[h1];simp
  .rw[d]
   obtain⟨h,j,_⟩:=(mem_ready c).1 h1;have k:=FH h c j;cases F with
   |zero=>omega
   |succ F=>
    unfold Ce;have f:=g (t / (Region.ready .any ops listed).length) (listed.setIfInBounds i true) F (by simp[c]) (by omega) (by omega);cases hr:Region.ready .any ops listed with
    |nil=>rw[hr]at h1;simp at h1
    |cons a l=>
     simp only;rw[hr]at h1 f;exact Zf.2 ⟨i,h1,gU.2 ⟨_,f,rfl⟩⟩
theorem aaz{ops:Array Oper}{a:List Nat}(h:Left ops n a):a∈aeL ops n:=by
 obtain⟨b,t,listed,d,f,g,rfl⟩:=h;have e:listed=FC ops n:=by
  apply Array.ext
  .simp[FC,d]
  .intro i h1 j
   have:=g i;unfold Dl at this;rw[bg,dI h1]at this;simp only[qE]at this;rw[this];simp[FC]
 have c:left' ops.size listed<=ops.size:=by
  unfold left';exact aS (List.length_filter_le _ _) (by simp)
 unfold aeL;rw[← e];exact VQ b t listed ops.size d f c
theorem YF{ops:Array Oper}(R:lY ops)(hj:j<ops.size)(f:∀i,j<i->i<ops.size->Bf ops i j){c:List Nat}(h:Left ops j c):∃b,c=j::b∧Left ops (j+1) b:=by
 obtain⟨a,t,listed,g,m,n,rfl⟩:=h;have k:Dl listed j=false:=by rw[n j];simp
 cases a with
 |zero=>
  have:j∈(List.range ops.size).filter λi=>Dl listed i==false:=iR.2 ⟨iO.2 hj,by rw[k];rfl⟩;have:=List.length_pos_of_mem this;unfold left' at m;omega
 |succ a=>
  rcases BG ops a t listed with⟨h1,u⟩|⟨i,h1,u⟩
  .have:=EI R g h1 j hj
   rw[k]at this;cases this
  .obtain⟨q,r,o,v,w⟩:=(mem_ready g).1 h1
   have hi:i=j:=by
    rcases Nat.lt_trichotomy i j with h|h|h
    .rw[n i]at r;simp at r;omega
    .exact h
    .have y:=f i h q
     obtain⟨e,z,s,p⟩:=Cb v y;have d:=w e z s;rw[n]at d;have d:=dN d;rcases p with p|⟨_,p⟩
     .omega
     .have:=DK R e.on j p;omega
   subst hi;refine⟨_,u,a,_,listed.setIfInBounds i true,by simp[g],by have:=FH q g r;omega,λl=>?_,rfl⟩;rw[LW (by rw[g];exact q)];unfold xE;rw[n l];by_cases m:l=i
   .subst m;simp
   .have:(l==i)=false:=by simp[m]
    rw[this,Bool.or_false];by_cases h:l<i
    .simp[h];omega
    .simp[h];omega
def RSo(ι:Nm):List (AF×Option Tmp)->List Frame->Prop
 |[],a=>a=[]
 |(f,d)::k,a=>∃fr r,a=fr::r∧Waits ι f d fr∧RSo ι k r
def Bare(ι:Nm)(n:Nat):Prop:=∀i,n<=i->i<OLD->ι i=none
def OAt(K:Ctx)(ι0:Nm)(cs:List Frame)(s:OS)(d:Nat)(g:Goroutine)(w:World):Prop:=
 ∃ι fr a,g=G fr (a++cs)∧Bare ι s.h.nx∧RF ι s.f fr∧RSo ι s.k a∧Sat K ι s.h w∧d=s.h.df∧Ext ι0 ι
theorem Bare.free{ι:Nm}{n m:Nat}(h:Bare ι n)(a:m<=OLD):Free ι n m:=λi hi hj=>h i hi (by omega)
theorem Bare.grow{ι ι':Nm}(h:Bare ι n)(g:Grow ι ι' n n'):Bare ι' n':=λi hi hj=>by rw[g.same i (.inr hi)];exact h i (by have:=g.le;omega) hj
theorem RSo.mono{ι ι':Nm}(e:Ext ι ι'):∀{k:List (AF×Option Tmp)} {a:List Frame},RSo ι k a->RSo ι' k a
 |[],_,h=>h
 |(f,d)::k,a,⟨fr,r,h1,g,j⟩=>⟨fr,r,h1,λb v u c l=>g b v u (λi p hp=>c i p (e i p hp)) l,j.mono e⟩
section
variable{P:Program}{main:Bool}{K:Ctx}{Z:Nm}{E:Env}{cs:List Frame}{out:List FuncId}
section
variable{x:AX}{Y:Array Oper}{V:List AD}{X:List Item}
theorem WT(F:Fits P E)(q:Of K P E):∀(l:List Nat) (tm:Tr AV) {ι:Nm} {h:AH} {w:World} {fr:Frame},Sat K ι h w->iC ι x tm V Y l X fr->
 Walk P main K (sU K ι h.nx x (Bg E x Y h l tm).1 V Y (Bg E x Y h l tm).2 X cs h) h.df (G fr cs) w
 |[],tm,ι,h,w,fr,S,H=> .stop λa hr=>⟨ι,fr,rfl,Grow.refl _ _,S.rely hr,H,rfl⟩
 |i::l,tm,ι,h,w,fr,S,H=>by
  have n:pG ι x tm V Y i l X fr:=⟨H.fn,H.tm,H.todo,H.ds,H.mode,H.kind,H.round⟩;have still:Walk P main K (sU K ι h.nx x tm V Y (i::l) X cs h) h.df (G fr cs) w:= .stop λa hr=>⟨ι,fr,rfl,Grow.refl _ _,S.rely hr,H,rfl⟩;have next:∀{c:Tr AV},Walk P main K (sU K ι h.nx x c V Y l X cs h) h.df (G fr cs) w->Walk P main K (sU K ι h.nx x (Bg E x Y h l c).1 V Y (Bg E x Y h l c).2 X cs h) h.df (G fr cs) w:=λ{c} W=>by
   refine W.bind ?_
   rintro d g w' ⟨ι',t,rfl,u,g2,y,rfl⟩
   refine(WT F q l c g2 y).mono ?_
   rintro d g z ⟨f,k,rfl,A,B,C,rfl⟩
   exact⟨f,k,rfl,u.trans A,B,C,rfl⟩
  unfold Bg;cases p:Y[i]? with
  |none=>exact still
  |some o=>
   simp only;cases r:dU o Y tm with
   |none=>exact still
   |some b=>
    cases b with
    |false=>
     refine next (Walk.of rfl λa hr=>⟨_,a,#[],y5 n (λI m=>?_),iG.refl a,.stop λs e=>⟨ι,_,rfl,Grow.refl _ _,(S.rely hr).rely e,n.finish p (Ext.refl ι) lZ,rfl⟩⟩)
     rw[p]at m;cases m;exact jY H.tm r
    |true=>
     simp only;cases D:fD o.op E tm h with
     |none=>exact still
     |some v=>exact next (BH (λa hr=>quiet_step q F (S.rely hr) n p (jY H.tm r) D) (λj h1 J=>by omega))
theorem Jr:∀(l:List Nat) (tm:Tr AV) {h:AH} {p:Tr AV×AH},J6 E x Y l tm h=some p->h.nx<=p.2.nx
 |[],tm,h,p,e=>by simp only[J6,dh]at e;subst e;exact aj _
 |i::l,tm,h,p,e=>by
  unfold J6 at e;cases a:Y[i]? with
  |none=>rw[a]at e;cases e
  |some o=>
   rw[a]at e;simp only at e;cases c:dU o Y tm with
   |none=>rw[c]at e;cases e
   |some b=>
    rw[c]at e;cases b with
    |false=>exact Jr l _ e
    |true=>
     simp only at e;cases d:fD o.op E tm h with
     |some v=>rw[d]at e;exact Jr l _ e
     |none=>
      rw[d]at e;simp only at e;split at e
      .rename_i v h' f
       have h1:h.nx<=h'.nx:=Dt f;exact aS h1 (Jr l _ e)
      .cases e
theorem WV(F:Fits P E)(t:Of K P E):∀(l:List Nat) (tm:Tr AV) {ι:Nm} {h:AH} {w:World} {fr:Frame} {p:Tr AV×AH},Sat K ι h w->Bare ι h.nx->iC ι x tm V Y l X fr->J6 E x Y l tm h=some p->p.2.nx<=OLD->
 Walk P main K (sU K ι h.nx x p.1 V Y [] X cs p.2) h.df (G fr cs) w
 |[],tm,ι,h,w,fr,p,S,u,H,e,_=>by
  simp only[J6,dh]at e;subst e;exact .stop λa hr=>⟨ι,fr,rfl,Grow.refl _ _,S.rely hr,H,rfl⟩
 |i::l,tm,ι,h,w,fr,p,S,u,H,e,z=>by
  have s:pG ι x tm V Y i l X fr:=⟨H.fn,H.tm,H.todo,H.ds,H.mode,H.kind,H.round⟩;have next:∀{c:Tr AV} {h':AH},J6 E x Y l c h'=some p->Walk P main K (sU K ι h.nx x c V Y l X cs h') h.df (G fr cs) w->Walk P main K (sU K ι h.nx x p.1 V Y [] X cs p.2) h.df (G fr cs) w:=λ{c h'} C W=>by
   refine W.bind ?_
   rintro d g w' ⟨ι',D,rfl,A,g2,I,rfl⟩
   refine(WV F t l c g2 (u.grow A) I C z).mono ?_
   rintro d g J ⟨m,n,rfl,L,M,N,rfl⟩
   exact⟨m,n,rfl,A.trans L,M,N,rfl⟩
  unfold J6 at e;cases k:Y[i]? with
  |none=>rw[k]at e;cases e
  |some o=>
   rw[k]at e;simp only at e;cases q:dU o Y tm with
   |none=>rw[q]at e;cases e
   |some b=>
    rw[q]at e;cases b with
    |false=>
     refine next e (Walk.of rfl λa hr=>⟨_,a,#[],y5 s (λQ r=>?_),iG.refl a,.stop λB f=>⟨ι,_,rfl,Grow.refl _ _,(S.rely hr).rely f,s.finish k (Ext.refl ι) lZ,rfl⟩⟩)
     rw[k]at r;cases r;exact jY H.tm q
    |true=>
     simp only at e;cases y:fD o.op E tm h with
     |some v=>
      rw[y]at e;exact next e (BH (λa hr=>quiet_step t F (S.rely hr) s k (jY H.tm q) y) (λj h1 R=>by omega))
     |none=>
      rw[y]at e;simp only at e;split at e
      .rename_i v h' O
       exact next e (BH (λa hr=>Fq t F (S.rely hr) s k (jY H.tm q) O) (u.free (aS (Jr l _ e) z)))
      .cases e
theorem ab3(F:Fits P E)(l:Of K P E){n:Nat}{tm:Tr AV}{ι:Nm}{h:AH}{w:World}{fr:Frame}{a:List Nat}{p:Tr AV×AH}(S:Sat K ι h w)(r:Bare ι h.nx)(s:Left Y n a)(H:iC ι x tm V Y a X fr)(e:ad9 E x Y n tm h=some p)(t:p.2.nx<=OLD):
 Walk P main K (sU K ι h.nx x p.1 V Y [] X cs p.2) h.df (G fr cs) w:=by
 have j:=aaz s;unfold ad9 at e;split at e
 .cases e
 .rename_i m B k
  rw[k]at j;obtain⟨c,e⟩:=jf e;rw[fM]at c;have b:(Bg E x Y h a tm).2=(Bg E x Y h m tm).2∧(Bg E x Y h a tm).1=(Bg E x Y h m tm).1:=by
   rcases ay.1 j with rfl|j
   .exact⟨rfl,rfl⟩
   .have:=c a j
    rw[aF]at this;exact⟨RJ this.1,Tr.Ew this.2⟩
  refine(WT (main:=main) (cs:=cs) F l a tm S H).bind ?_
  rintro d g w' ⟨ι',u,rfl,o,g2,q,rfl⟩
  rw[b.1,b.2]at q;refine(WV F l _ _ g2 (r.grow o) q e t).mono ?_
  rintro d g v ⟨f,i,rfl,y,z,A,rfl⟩
  exact⟨f,i,rfl,o.trans y,z,A,rfl⟩
end
theorem ZH(F:Fits P E)(FF:eU P E)(hP:Of K P E)(n:Nat){s s':OS}(e:QN E (vW E n) out s=some s')(U:s'.h.nx<=OLD){g:Goroutine}(H:OAt K Z cs s d g w):Walk P main K (OAt K Z cs s') d g w:=by
 obtain⟨f,k,h⟩:=s;obtain⟨ι,fr,q,rfl,M,R,HS,S,rfl,N⟩:=H;have hr:=runF_ok (P:=P) (main:=main) F FF n;have hup:nR.Up (vW E n):=Js n;have hD:=JH (main:=main) F FF (λ_=>Jv hr FF) (λ_=>Di hup);unfold QN at e;simp only at e R HS S M;cases hs:iZ E f h with
 |none=>
  rw[hs]at e;simp only at e;split at e
  .rename_i x tm ops m k0 ds
   split at e
   .rename_i p hp
    cases e;obtain⟨i,k',ht,⟨rest,hl,rfl⟩,hk⟩:=R.todo;have H:iC ι x tm ds ops rest k' fr:=⟨R.fn,R.tm,ht,R.ds,by simpa using R.mode,R.kind,R.round⟩;refine(ab3 (main:=main) F hP S M hl H hp U).bind ?_
    rintro d g w' ⟨ι',D,rfl,g1,g2,V,rfl⟩
    have J:=g1.ext (M.free U);refine Walk.of rfl λz A=>?_;have ht:=V.todo;have hm:=V.mode;refine⟨G { D with todo:=k' } (q++cs),z,#[],by simp[G,stepG,hm,stepG.exec,ht],iG.refl z,.stop λB b=>?_⟩;have R2:RF ι' ⟨x,p.1,k0,ds,false⟩ { D with todo:=k' }:=⟨V.fn,V.tm,hk.mono J,V.ds,by simpa using V.mode,V.kind,V.round⟩;exact⟨ι',_,q,rfl,M.grow g1,R2,HS.mono J,(g2.rely A).rely b,rfl,N.trans J⟩
   .cases e
  .cases e
 |some a=>
  rw[hs]at e;have hx:=yI hs;refine Walk.of rfl λO hr₁=>?_;have X:=S.rely hr₁;have C:yg P main K ι h O fr (q++cs) a:=step_ok hP F FF X R hs;cases a with
  |go f' h1=>
   cases e;have y:=M.free (m:=h1.nx) U;obtain⟨ι',D,w',es,k1,L,Y,k4,k5,k6⟩:=C y;exact⟨_,w',es,k1,k5,.stop λB b=>⟨ι',D,q,rfl,M.grow L,k4,HS.mono (L.ext y),Y.rely b,k6,N.trans (L.ext y)⟩⟩
  |ret v h1=>
   obtain⟨u,w',es,k1,L,Y,k4,k5,k6⟩:UE P main K ι h O fr (q++cs) v h1:=C;simp only at e;cases k with
   |nil=>cases e
   |cons p k=>
    obtain⟨f',d⟩:=p;simp only at e;cases hd:f.x.deferred with
    |true=>rw[hd]at e;cases e
    |false=>
     rw[hd]at e;cases e;obtain⟨fr1,r1,rfl,hw1,hs1⟩:=HS;have hk:fr.kind= .normal:=by rw[R.kind,hd];rfl
     rw[iW,uF (.inl hk) (λhx=>by rw[hk]at hx;cases hx),hk]at k1;refine⟨G (fr1.finish u) (r1++cs),w',es,by rw[iW,k1];simp[GStep.after,back],k4,.stop λB b=>⟨ι,fr1.finish u,r1,rfl,?_,?_,hs1,L.rely b,k5,N⟩⟩
     .show Bare ι h1.nx
      rw[k6];exact M
     .obtain⟨x,tm,td,ds,rt⟩:=f'
      exact hw1 ι v u (λ_ _ h=>h) Y
  |call f' d g args h1=>
   simp only at e;have hb1:h1.nx<=OLD:=by
    cases ho:out.any (Nat.beq g)with
    |true=>
     rw[ho]at e;simp only[bG]at e;split at e
     .cases e;exact U
     .cases e
    |false=>
     rw[ho]at e;simp only[bH]at e;split at e
     .rename_i p hp;cases e;exact aS (vX hup hp) U
     .cases e
   have y:=M.free hb1;obtain⟨ι',D,vs,w',es,k1,L,Y,k4,⟨k5,k5'⟩,k6,k7⟩:=C y;cases ho:out.any (Nat.beq g)with
   |true=>
    rw[ho]at e;simp only[bG]at e;cases he:jJ E g args false with
    |none=>rw[he]at e;cases e
    |some f2=>
     rw[he]at e;cases e;exact⟨_,w',es,k1,k6,.stop λB b=>⟨ι',_,D::q,rfl,M.grow L,lV FF he k4 rfl,⟨D,q,rfl,k5,HS.mono (L.ext y)⟩,Y.rely b,k7,N.trans (L.ext y)⟩⟩
   |false=>
    rw[ho]at e;simp only[bH]at e;cases hp:E8 E (vW E n) g args false h1 with
    |none=>rw[hp]at e;cases e
    |some p=>
     rw[hp]at e;cases e;refine⟨_,w',es,k1,k6,?_⟩;rw[k7];have T:=M.grow L;refine(CZ hr hP FF hp Y k4 rfl (λhx=>by cases hx) (T.free U)).bind ?_
     rintro d' g' w'' ⟨r,u,rfl,g1,g2,V,rfl⟩
     have J:=g1.ext (T.free U);obtain⟨x,tm,td,ds,rt⟩:=f';exact .stop λB b=>⟨r,D.finish u,q,rfl,T.grow g1,k5 r p.1 u J V,(HS.mono (L.ext y)).mono J,g2.rely b,rfl,(N.trans (L.ext y)).trans J⟩
  |dcall f' g args h1=>
   simp only at e;have hb1:h1.nx<=OLD:=by
    obtain⟨_,e⟩:=dO e;split at e
    .rename_i p hp;cases e;exact aS (vX hup hp) U
    .cases e
   have y:=M.free hb1;obtain⟨ι',D,vs,w',es,k1,L,Y,k4,⟨k5,k5'⟩,k6,k7⟩:=C y;obtain⟨_,e⟩:=dO e;cases hp:E8 E (vW E n) g args true h1 with
   |none=>rw[hp]at e;cases e
   |some p=>
    rw[hp]at e;cases e;refine⟨_,w',es,k1,k6,?_⟩;rw[k7];have T:=M.grow L;refine(CZ hr hP FF hp Y k4 rfl (λ_ e l hm=>by rw[k5']at hm;cases hm) (T.free U)).bind ?_
    rintro d' g' w'' ⟨r,u,rfl,g1,g2,V,rfl⟩
    have J:=g1.ext (T.free U);exact .stop λB b=>⟨r,D,q,rfl,T.grow g1,k5.mono J,(HS.mono (L.ext y)).mono J,g2.rely b,rfl,(N.trans (L.ext y)).trans J⟩
  |drawn x tm ops k0 ds h1=>
   obtain⟨rfl,t,d,k',k1,L,Y⟩:=C;simp only at e;cases hb:wS ops.toList (Region.before ops) ops with
   |false=>rw[hb]at e;cases e
   |true=>
    rw[hb]at e;simp only[bG]at e;split at e
    .
     rename_i j hj;unfold adN at e;obtain⟨hbar,e⟩:=jf e;unfold ag2 at hbar;rw[fM]at hbar;split at e
     .rename_i p o hp ho
      split at e
      .rename_i g args hw hl
       obtain⟨_,e⟩:=jf e;cases he:jJ E g args false with
       |none=>rw[he]at e;cases e
       |some f2=>
        rw[he]at e;cases e;have hjs:j<ops.size:=(aV.1 ho).1;have hbars:∀i,j<=i->i<ops.size->∀l,l<(if i=j then j else j+1)->Bf ops i l:=λi h1 h2 l h3=>by
         have:=hbar i (iO.2 h2);have hlt:Nat.blt i j=false:=by cases hb:Nat.blt i j with |false=>rfl|true=>rw[dB]at hb;omega
         rw[hlt,bH,fM]at this;refine this l (iO.2 ?_);by_cases hij:i=j
         .rw[aC hij]at h3
          have:Nat.beq i j=true:=by rw[hij];simp
          rw[this];exact h3
         .rw[ah hij]at h3
          have:Nat.beq i j=false:=by cases hb:Nat.beq i j with |false=>rfl|true=>exact aX (au hb) hij
          rw[this];exact h3
        refine⟨_,_,#[],k1,iG.drawn O d,?_⟩;have W:=NS (main:=main) (cs:=q++cs) F FF (λ_=>Jv hr FF) (λ_=>Di hup) (iD hjs) (λi h1 h2 l h3=>hbars i h1 h2 l (by split<;>omega)) hP (X.drawn d) Y hb hp (M.free U);refine W.bind ?_
        rintro d' g' w'' ⟨rest,hL,r,I,rfl,j1,j2,Q,rfl⟩
        have J:=j1.ext (M.free U);obtain⟨rest',rfl,hL'⟩:=YF (Fb hb) hjs (λi h1 h2=>hbars i (iD h1) h2 j (by rw[ah (by omega)];omega)) hL;have hA:pG r x p.1 ds ops j rest' k' I:=⟨Q.fn,Q.tm,Q.todo,Q.ds,Q.mode,Q.kind,Q.round⟩;refine Walk.of rfl λz A=>?_;have S₃:=j2.rely A;obtain⟨c,nt,rs,ex,hg⟩:∃c nt rs ex,E.ft.get g=some ⟨some c,nt,rs,ex⟩:=by
         unfold jJ at he;split at he
         .exact⟨_,_,_,_,‹_›⟩
         .cases he
        obtain⟨vs,h1,h2⟩:=Dv (main:=main) (cs:=q++cs) hP F FF S₃ hA ho (jY hA.tm hw) hl hg;refine⟨_,z,#[],h2,iG.refl z,.stop λB b=>?_⟩;refine⟨r,_,I::q,rfl,M.grow j1,lV FF he h1 rfl,⟨I,q,rfl,λι3 v u hE' hv=>?_,HS.mono J⟩,S₃.rely b,rfl,N.trans J⟩;have H2:=hA.finish ho hE' hv;exact⟨H2.fn,H2.tm,⟨_,_,H2.todo,⟨rest',hL',rfl⟩,(L.mono J).mono hE'⟩,H2.ds,by simpa using H2.mode,H2.kind,H2.round⟩
      .cases e
     .cases e
    .split at e
     .rename_i p hp
      cases e;refine⟨_,_,#[],k1,iG.drawn O d,?_⟩;have W:=hD K ι { O with drawn:=d } x tm ds ops t k' _ (q++cs) h1 p.1 p.2 hP (X.drawn d) Y hb hp (M.free U);refine W.bind ?_
      rintro d' g' w'' ⟨r,I,rfl,j1,j2,Q,rfl⟩
      have J:=j1.ext (M.free U);refine Walk.of rfl λz A=>?_;have ht:=Q.todo;have hm:=Q.mode;refine⟨G { I with todo:=k' } (q++cs),z,#[],by simp[G,stepG,hm,stepG.exec,ht],iG.refl z,.stop λB b=>?_⟩;have R2:RF r ⟨x,p.1,k0,ds,false⟩ { I with todo:=k' }:=⟨Q.fn,Q.tm,L.mono J,Q.ds,by simpa using Q.mode,Q.kind,Q.round⟩;exact⟨r,_,q,rfl,M.grow j1,R2,HS.mono J,(j2.rely A).rely b,rfl,N.trans J⟩
     .cases e
  |_=>cases e
noncomputable def E5(E:Env)(r:nR)(out:List FuncId)(n:Nat):OS->OS:=
 @Nat.rec (λ_=>OS->OS) (λs=>s) (λ_ b s=>match QN E r out s with |some a=>cond (Nat.ble a.h.nx OLD) (b a) s|none=>s) n
theorem OD(F:Fits P E)(FF:eU P E)(p:Of K P E)(n:Nat):∀(m:Nat) (s:OS) {d:Nat} {g:Goroutine} {w:World},OAt K Z cs s d g w->Walk P main K (OAt K Z cs (E5 E (vW E n) out m s)) d g w
 |0,s,d,g,w,H=> .stop λb hr=>by
  obtain⟨ι,fr,a,h1,c,f,i,j,k,l⟩:=H;exact⟨ι,fr,a,h1,c,f,i,j.rely hr,k,l⟩
 |m+1,s,d,g,w,H=>by
  have e:E5 E (vW E n) out (m+1) s=(match QN E (vW E n) out s with |some o=>cond (Nat.ble o.h.nx OLD) (E5 E (vW E n) out m o) s|none=>s):=rfl;rw[e];cases q:QN E (vW E n) out s with
  |none=>
   refine .stop λb hr=>?_;obtain⟨ι,fr,a,h1,c,f,i,j,k,l⟩:=H;exact⟨ι,fr,a,h1,c,f,i,j.rely hr,k,l⟩
  |some o=>
   simp only;cases r:Nat.ble o.h.nx OLD with
   |true=>exact(ZH F FF p n q (aJ r) H).bind λu g' w' t=>OD F FF p n m o t
   |false=>
    refine .stop λb hr=>?_;obtain⟨ι,fr,a,h1,c,f,i,j,k,l⟩:=H;exact⟨ι,fr,a,h1,c,f,i,j.rely hr,k,l⟩
end
end
section
open Go.Conc
open Go.ConcX (WgAt wgBlock stA smA KK OfWg RCa RCd DC0 KCa Full Payload Shy DCs EvQ)
open Go.ConcN (sumTo sumTo_upd upd_same)
open Go.Conc.Lib (WgLib WgLink)
variable{f:AF}{fr:Frame}{g:FuncId}{rs:List ResultVar}{v:AV}
noncomputable def bot(P:Program):Frame:={ (default:Frame)with fn:=P.funcs.size,defers:=[],mode:= .panicking [goexitEntry] }
theorem abv(P:Program):Calm (bot P):=λe l h=>by
 simp only[bot,FrameMode.panicking.injEq,dM]at h;rw[← h.1];rfl
section
variable{P:Program}{E:Env}{Z:Nm}
theorem Vf(F:Fits P E)(FF:eU P E)(b:f.x.deferred=true)(e:stepT E f=some (.ret v))(R:RF Z f fr):QuitsD P 2 0 (G fr [bot P]):=by
 obtain⟨u,_,c⟩:=rW (main:=false) (cs:=[bot P]) F FF R e;have a:fr.kind= .deferred:=by rw[R.kind,b];rfl
 refine QuitsD.ctl (g':=G (bot P) []) rfl (λw=>?_) ?_
 .rw[c w,uF (.inr a) (λ_=>abv P),a];rfl
 .refine QuitsD.ctl (g':={ G (bot P) []with status:= .finished }) rfl (λw=>?_) ⟨rfl,rfl⟩
  simp[G,stepG,unwind,bot,goexitEntry,Frame.catches];rfl
theorem Y3(FF:eU P E){c:Code}{n:Nat}{x:EX}(e:E.ft.get g=some ⟨some c,n,rs,x⟩)(d as a:Array Value)(w:World):
 stepG P false (born P { target:= .fn (.func g) a,args:=d++as }) w= .go (G (Frame.enter P g ((d++as)++a) .deferred) [bot P]) w #[]:=by
 obtain⟨fn,h1,f,_,_,h⟩:=FF.code g c n rs x e;have b : ¬ fn.name = "runtime.NumGoroutine" := by simpa using h
 simp[born,stepG,unwind,callDeferred,invoke,callFunc,h1,f,b,seen,GStep.after,G,bot]
theorem ac6(F:Fits P E)(FF:eU P E){L:WgLink}(H:WgLib P L){K:Ctx}{h:AH}{w:World}(u:Of K P E)(S:Sat K Z h w){Wg:Nat}(g:¬K.own Wg)(k:Wg<w.heap.size){c:Nat}{vs:List AV}{el:TypeId}(l:h.obj c= .cells vs el false false)
 {f:AF}{v:AV}(m:f.x.deferred=true)(e:stepT E f=some (.ret v)){fr:Frame}(R:RF Z f fr)(n:fr.mode= .returning):V9 P L.tWg Wg K (G (Frame.enter P L.done #[.pointer (some ⟨Wg,0,none⟩)] .deferred) (fr::[bot P])) w:=by
 obtain⟨p,ob,hp,hb1,a,i,j,ca,lo,hi,rfl,⟨l1,l2,y,z⟩,h1,A,o⟩:=S.at l trivial;obtain⟨rfl,rfl⟩:=(o rfl).2 rfl;have b:p.1≠Wg:=λx=>g (x▸a);refine⟨rfl,⟨el⟩,p.1,ca.toList,b,hb1,a,λ_=>by rw[j,Array.toArray_toList];rfl,λq d r=>?_⟩;have s:=@Go.ConcX.Gen.doneD ⟨el⟩ L P H d Wg p.1 w.heap.size q ca.toList k i b fr [bot P] 2 n (Vf F FF m e R) w ⟨r,λ_=>by rw[j,Array.toArray_toList];rfl⟩;have t:Frame.enter P L.done #[.pointer (some ⟨Wg,0,none⟩)] .deferred=(baseD L.done).at ⟨#[.pointer (some ⟨Wg,0,none⟩),undef,undef,undef],[]⟩ [.code (@Go.ConcX.Gen.body_done L)]:=by
  rw[enter_atD _ H.f_done (c:=@Go.ConcX.Gen.body_done L) (by rfl)];rfl
 rw[t];exact⟨23,s⟩
end
section
variable{P:Program}{Z:Loc->Prop}{ty:TypeId}{Wg:Nat}
theorem Nr{a:Goroutine}(b:a.status= .running){B d N0:Nat}{w0:World}:∀(S:Nat) (f:Array Goroutine) (w:World) (sl:Option (Nat×Nat)) (t:Trace) (q:Nat->Nat),sumTo f.size q=S->f.size=N0->f[0]? =some a->Leavers P t f q->mW Z B d t->(∃x,w=w0.at x)->
 Reaches P f w sl t (λc w' sl' u=>c.size=N0∧c[0]? =some a∧(∃x,w'=w0.at x)∧∃q',Leavers P u c q'∧mW Z B d u∧∃h j,Go.stepT P (crowd c w' sl')=runT P (crowd c (w'.at h) j) 0):=by
 intro S;induction S using Nat.strongRecOn with
 |ind S A=>
  intro f w sl t q C v h0 o y z;obtain⟨i,g,h,sl',hi,D,l⟩:=crowd_pick (P:=P) (w:=w) (sl:=sl) (Eh o h0 b) ⟨0,a,h0,b⟩;rcases jw i with rfl|m
  .exact .here ⟨v,h0,z,q,o,y,h,sl',l⟩
  .obtain⟨k,I,F,G,e,H,n,p,r,s⟩:=BD (w:=w) (sl':=sl') (d:=h) o h0 b m hi D
   exact Reaches.step (by rw[l];exact e) (A _ (by rw[← C];exact s) _ (w.at h) sl' _ (ConcN.upd q i k) (by rw[n]) (n.trans v) p r (y.mute (by omega) H) (by obtain⟨x,rfl⟩:=z;exact⟨h,rfl⟩))
theorem acH{N0:Nat}{Stop:Nat->Goroutine->Prop}(K:∀d g,Stop d g->g.status= .running){w0:World}{st F:Int}(j:WgAt ty Wg w0 st F):∀(n S:Nat) (a:Goroutine) (d:Nat) (b:Array Goroutine) (w:World) (sl:Option (Nat×Nat)) (t:Trace) (q:Nat->Nat),sumTo b.size q=S->b.size=N0->b[0]? =some a->MW P ty Wg Stop n d a->Leavers P t b q->mW Z w0.heap.size d t->(∃x,w=w0.at x)->
 Reaches P b w sl t (λc w' sl' G=>∃H I q',c.size=N0∧c[0]? =some I∧Stop H I∧(∃x,w'=w0.at x)∧Leavers P G c q'∧mW Z w0.heap.size H G):=by
 intro n;induction n with
 |zero=>exact λS a d b w sl t q _ o h0 u p r s=> .here ⟨d,a,q,o,h0,u,s,p,r⟩
 |succ n L=>
  intro S a d b w sl t q M o h0 u p r s;rcases qK u with N|⟨m,O,k,v⟩
  .exact .here ⟨d,a,q,o,h0,N,s,p,r⟩
  .cases O
   refine Reaches.then (Nr k S b w sl t q M o h0 p r s) ?_
   rintro Q w1 R t1 ⟨y,f,⟨x,rfl⟩,T,z,A,B,l,C⟩
   obtain⟨g',es,h1,J,U⟩:=v ((w0.at x).at B) ⟨st,F,j⟩;have h:=runT_crowd_go (P:=P) (sl:=l) (i:=0) f (show stepG P (0==0) a ((w0.at x).at B)=_ from h1);refine Reaches.step (by rw[C];exact h) ?_;exact L _ g' _ _ _ l _ T rfl (jR.trans y) (Dz f) U (uS z f) (A.own (fn:=a.frame.fn) (pos:=a.frame.place) (λe D x V _=>(Ia (.inl (J e D)) V).2) (λe D=>yB (.inl (J e D)) (tC j))) ⟨B,rfl⟩
end
end
section
open Go.Conc
open Go.ConcX (WgAt wgBlock stA smA KK OfWg RCa RCd DC0 KCa Full Payload Shy DCs EvQ)
open Go.ConcN (sumTo sumTo_upd upd_same)
open Go.Conc.Lib (WgLib WgLink)
variable{h:AH}
noncomputable def Jq(E:Env)(n:Nat):AF->Option (AF×Option Tmp×FuncId×List AV):=
 @Nat.rec (λ_=>AF->Option (AF×Option Tmp×FuncId×List AV)) (λ_=>none) (λ_ a f=>match stepT E f with
  |some (.go f')=>a f'
  |some (.call f' d g args)=>some (f',d,g,args)
  |_=>none) n
noncomputable def Oo(ty:TypeId)(h:AH)(id:Nat):Bool:=match h.obj id with
 | .cells [.int .u64 st,.int .u32 a] el false false=>st==KK&&a==0&&Nat.beq el ty
 |_=>false
noncomputable def Dh(h:AH)(id:Nat):Bool:=match h.obj id with | .cells _ _ false false=>true|_=>false
def Vw:Option T1->Bool
 |some (.ret _)=>true
 |_=>false
noncomputable def aeZ(E:Env)(D:FuncId)(a:Nat)(s:OS):Option AH:=
 match s.k,iZ E s.f s.h with
 |[],some (.dcall f' g [.ptr i 0] h')=>cond (Nat.beq g D&&(Nat.beq i a&&(Nat.beq h'.df 0&&(Vw (stepT E f')&&f'.x.deferred)))) (some h') none
 |_,_=>none
def ag1:List AV->Option Nat
 |_:: .ptr c 0::_=>some c
 |_=>none
noncomputable def JZ(E:Env)(I:pz)(D:FuncId)(ty:TypeId)(n m:Nat)(out:List FuncId)(s:OS):Option OS:=
 match stepT E s.f with
 |some (.spawn f' g args)=>match Jq E 200 f' with
  |some (b,d,e,[.ptr a 0])=>cond (Nat.beq e I.wait&&(Oo ty s.h a&&Nat.beq s.h.df 0)) (match jJ E g args true,ag1 args with
   |some i,some c=>match aeZ E D a (E5 E (vW E n) out m ⟨i,[],s.h.put a .dead⟩)with
    |some h'=>cond (Nat.ble h'.nx OLD) (cond (Dh h' c) (some ⟨aef b d (.gI []),s.k,h'⟩) none) none
    |none=>none
   |_,_=>none) none
  |_=>none
 |_=>none
section
variable{P:Program}{ty:TypeId}{Wg:Nat}{Fin Z:Goroutine->Prop}
theorem MW.mono{Stop a:Nat->Goroutine->Prop}(h:∀d g,Stop d g->a d g):∀{n d:Nat} {g:Goroutine},MW P ty Wg Stop n d g->MW P ty Wg a n d g
 |0,_,_,H=>h _ _ H
 |n+1,d,g,H=>H.elim (λx=> .inl (h _ _ x)) λx=> .inr ⟨x.1,λw b=>by
  obtain⟨g',es,h1,c,e⟩:=x.2 w b;exact⟨g',es,h1,c,MW.mono h e⟩⟩
theorem AtAcq.mono(h:∀g,Fin g->Z g){g:Goroutine}(H:AtAcq P Wg Fin g):AtAcq P Wg Z g:=⟨H.1,λw=>by obtain⟨g',h1,a⟩:=H.2 w;exact⟨g',h1,h _ a⟩⟩
theorem abP.mono(h:∀g,Fin g->Z g){n:Nat}{g:Goroutine}(H:abP P ty Wg Fin n g):abP P ty Wg Z n g:=MW.mono (λ_ _ x=>⟨x.1,x.2.mono h⟩) H
theorem Om.mono(h:∀g,Fin g->Z g){g:Goroutine}(H:Om P ty Wg Fin g):Om P ty Wg Z g:=⟨H.1,λw a b=>by obtain⟨g',h1,n,c⟩:=H.2 w a b;exact⟨g',h1,n,c.mono h⟩⟩
theorem abO.mono(h:∀g,Fin g->Z g){n:Nat}{g:Goroutine}(H:abO P ty Wg Fin n g):abO P ty Wg Z n g:=MW.mono (λ_ _ x=>⟨x.1,x.2.mono h⟩) H
theorem Jd.mono(h:∀g,Fin g->Z g){g:Goroutine}(H:Jd P ty Wg Fin g):Jd P ty Wg Z g:=⟨H.1,H.2.1,H.2.2.1,λw a=>by obtain⟨g',h1,n,b⟩:=H.2.2.2 w a;exact⟨g',h1,n,b.mono h⟩⟩
theorem adC.mono(h:∀g,Fin g->Z g){n:Nat}{g:Goroutine}(H:adC P ty Wg Fin n g):adC P ty Wg Z n g:=MW.mono (λ_ _ x=>⟨x.1,x.2.mono h⟩) H
theorem LY.mono(h:∀g,Fin g->Z g){g:Goroutine}(H:LY P ty Wg Fin g):LY P ty Wg Z g:=
 ⟨H.1,λw a=>by obtain⟨g',h1,n,b⟩:=H.2.1 w a;exact⟨g',h1,n,b.mono h⟩,λw a=>by obtain⟨g',h1,n,b⟩:=H.2.2 w a;exact⟨g',h1,n,b.mono h⟩⟩
theorem adD.mono(h:∀g,Fin g->Z g){n:Nat}{g:Goroutine}(H:adD P ty Wg Fin n g):adD P ty Wg Z n g:=MW.mono (λ_ _ x=>⟨x.1,x.2.mono h⟩) H
theorem V8.mono(h:∀g,Fin g->Z g){g:Goroutine}(H:V8 P ty Wg Fin g):V8 P ty Wg Z g:=
 ⟨H.1,λw a=>by obtain⟨g',h1,n,b⟩:=H.2.1 w a;exact⟨g',h1,n,b.mono h⟩,λw a=>by obtain⟨g',h1,n,b⟩:=H.2.2 w a;exact⟨g',h1,n,b.mono h⟩⟩
theorem MLd.mono(h:∀g,Fin g->Z g){d n:Nat}{g:Goroutine}(H:MLd P ty Wg Fin d n g):MLd P ty Wg Z d n g:=MW.mono (λ_ _ x=>⟨x.1,x.2.mono h⟩) H
end
section
variable{P:Program}{E:Env}{I:pz}{Z:Nm}
def X9(P:Program)(Z:Nm)(c:AF)(e:Option Tmp)(g:FuncId)(args:List AV)(cs:List Frame)(dd:Nat):Nat->Goroutine->Prop:=λd a=>
 d=dd∧∃b vs,a=G (Frame.enter P g vs .normal) (b::cs)∧EJ Z c e b∧dS Z args vs.toList
theorem JW(F:Fits P E)(FF:eU P E){ty:TypeId}{Wg:Nat}{g:FuncId}{args:List AV}{a:AF}{b:Option Tmp}{c:Code}{nt:Nat}{p:List ResultVar}{x:EX}(o:E.ft.get g=some ⟨some c,nt,p,x⟩)(cs:List Frame)(dd:Nat):∀(n:Nat) (f:AF) (fr:Frame),Jq E n f=some (a,b,g,args)->RF Z f fr->
 MW P ty Wg (X9 P Z a b g args cs dd) n dd (G fr cs)
 |0,_,_,e,_=>by cases e
 |n+1,f,fr,e,R=>by
  have e:(match stepT E f with
   |some (.go f')=>Jq E n f'
   |some (.call f' d g args)=>some (f',d,g,args)
   |_=>none)=some (a,b,g,args):=e
  split at e
  .rename_i f' j
   have h:=rW (main:=true) (cs:=cs) F FF R j;refine .inr ⟨rfl,λw _=>?_⟩;obtain⟨k,⟨es,h1,i⟩,l⟩:=h w;refine⟨_,es,h1,Eo i,?_⟩;rw[BU i];exact JW F FF o cs dd n f' k e l
  .rename_i f' d g' m j
   cases e;obtain⟨h1,_,vs,i,l⟩:=rW (main:=true) (cs:=cs) F FF R j;refine .inr ⟨rfl,λw _=>⟨_,#[],(l w).1 _ _ _ _ o,by simp,?_⟩⟩;have:X9 P Z a b g args cs dd dd (G (Frame.enter P g vs .normal) (fr::cs)):=⟨rfl,fr,vs,rfl,h1,i⟩;cases n with
   |zero=>exact this
   |succ n=>exact .inl this
  .cases e
theorem acN(X:xZ P E I)(b:wM E I=true){ty:TypeId}{Wg y q:Nat}(j:Z q=some (Wg,y)){r:AF}{u:Option Tmp}{f:AF}{fr:Frame}(cs:List Frame){n:Nat}(e:Jq E n f=some (r,u,I.wait,[.ptr q 0]))(R:RF Z f fr):
 ∃m,MLd P ty Wg (λa=>∃h,EJ Z r u h∧Gv P ty Wg h cs a) 0 m (G fr cs):=by
 have k:∃c nt i x,E.ft.get I.wait=some ⟨some c,nt,i,x⟩:=by
  unfold wM at b;split at b
  .rename_i f l
   unfold jJ at l;split at l
   .rename_i c n i x z
    exact⟨c,n,i,x,z⟩
   .cases l
  .cases b
 obtain⟨c,nt,i,x,k⟩:=k;have h1:=JW (ty:=ty) (Wg:=Wg) X.F X.FF k cs 0 n f fr e R;refine⟨n+200,VR.mw_then (m:=200) (λd g A=>?_) h1⟩;obtain⟨rfl,h,vs,rfl,B,C⟩:=A;obtain⟨v,rfl,o⟩:=args1 C;obtain⟨p,hp,rfl⟩:=jF o;rw[j]at hp;cases hp;exact MLd.mono (λa D=>⟨h,B,D⟩) (abV (ty:=ty) (Wg:=Wg) X b h cs)
end
def V3(P:Program)(E:Env)(W:World)(B0:Nat)(cs:List Frame)(s:OS):Array Goroutine->World->Option (Nat×Nat)->Trace->Prop:=λgs w _ t=>
 ∃K Shun a q,Of K P E∧K.W0=W∧K.fz=(λb=>b<B0)∧V7 K Shun∧gs[0]? =some a∧OAt K (λ_=>none) cs s s.h.df a w∧Leavers P t gs q∧mW Shun w.heap.size s.h.df t
section
variable{P:Program}{E:Env}{I:pz}{W:World}{U:Nat}{Z:List Frame}{V:Array Goroutine}{w:World}{Y:Option (Nat×Nat)}{t:Trace}{s T:OS}
theorem ZP(F:Fits P E)(FF:eU P E)(n m:Nat)(out:List FuncId)(H:V3 P E W U Z s V w Y t):Reaches P V w Y t (V3 P E W U Z (E5 E (vW E n) out m s)):=by
 obtain⟨K,Shun,a,q,h1,h,i,g,h0,j,k,l⟩:=H;refine Reaches.then (yV g (OD (main:=true) F FF h1 n (out:=out) m s j) w (kX.refl w) V Y t q h0 k l) ?_
 rintro o w1 p t1 ⟨r,B,u,C,b,c,d,e⟩
 obtain⟨ι,fr,f,k1,v,x,y,z,rfl,A⟩:=c;exact .here ⟨K,Shun,r,u,h1,h,i,g,b,⟨ι,fr,f,k1,v,x,y,z,rfl,A⟩,d,e⟩
theorem UY{ty:TypeId}{id:Nat}(e:Oo ty h id=true):h.obj id= .cells [.int .u64 KK,.int .u32 0] ty false false:=by
 unfold Oo at e;split at e
 .rename_i st b el a
  simp only[aF,oH]at e;obtain⟨⟨rfl,rfl⟩,e⟩:=e;rw[au e]at a;exact a
 .cases e
theorem MC{id:Nat}(e:Dh h id=true):∃vs el,h.obj id= .cells vs el false false:=by
 unfold Dh at e;split at e
 .exact⟨_,_,‹_›⟩
 .cases e
theorem aaT{D b:Nat}{s:OS}(e:aeZ E D b s=some h):s.k=[]∧h.df=0∧∃f' v,iZ E s.f s.h=some (.dcall f' D [.ptr b 0] h)∧stepT E f'=some (.ret v)∧f'.x.deferred=true:=by
 unfold aeZ at e;split at e
 .rename_i f' g i h' j d
  cases a:(Nat.beq g D&&(Nat.beq i b&&(Nat.beq h'.df 0&&(Vw (stepT E f')&&f'.x.deferred))))with
  |false=>rw[a]at e;cases e
  |true=>
   rw[a]at e;cases e;simp only[aF]at a;obtain⟨c1,c2,l,c,m⟩:=a;rw[au c1,au c2]at d;refine⟨j,au l,f',?_⟩;unfold Vw at c;split at c
   .exact⟨_,d,‹_›,m⟩
   .cases c
 .cases e
theorem afB(t:Trace)(g:Nat)(fn:FuncId)(pos:String)(a b:MemOp):t++((MemOp.ofEvents g fn pos #[]).push a).push b=(t.push a).push b:=by
 rw[ofEvents_none];apply dH.1;simp
theorem NU(t:Trace)(i j:Nat)(fn b:FuncId)(pos a:String)(g g':Nat):Deaf ((t.push { g:=g,fn,pos,act:= .go j }).push { g:=g',fn:=b,pos:=a,act:= .start }) i=Deaf t i:=by
 have e:(t.push { g:=g,fn,pos,act:= .go j }).push { g:=g',fn:=b,pos:=a,act:= .start }=t++(#[{ g:=g,fn,pos,act:= .go j },{ g:=g',fn:=b,pos:=a,act:= .start }]:Trace):=by
  apply dH.1;simp
 rw[e];have:=Deaf_append t i [({ g:=g,fn,pos,act:= .go j }:MemOp),{ g:=g',fn:=b,pos:=a,act:= .start }];simp only[kY,List.foldl_nil,deafStep]at this;rw[show(#[{ g:=g,fn,pos,act:= .go j },{ g:=g',fn:=b,pos:=a,act:= .start }]:Trace)=⟨[{ g:=g,fn,pos,act:= .go j },{ g:=g',fn:=b,pos:=a,act:= .start }]⟩from rfl,this]
theorem U6(X:xZ P E I)(hwait:wM E I=true){L:WgLink}(H:WgLib P L){n m:Nat}{out:List FuncId}(e:JZ E I L.done L.tWg n m out s=some T)(HM:V3 P E W U Z s V w Y t):Reaches P V w Y t (V3 P E W U Z T):=by
 unfold JZ at e;split at e
 .rename_i f' g args hsp
  split at e
  .rename_i fw dw gw Q hcall
   cases hc:(Nat.beq gw I.wait&&(Oo L.tWg s.h Q&&Nat.beq s.h.df 0))with
   |false=>rw[hc]at e;cases e
   |true=>
    rw[hc]at e;simp only[bG]at e;simp only[aF]at hc;obtain⟨hgw,hwg,hdf⟩:=hc;have hgw:=au hgw;have hdf:=au hdf;have hwg:=UY hwg;subst hgw;split at e
    .rename_i f2 c hf2 hbl
     split at e
     .rename_i h' hend
      cases J:Nat.ble h'.nx OLD with
      |false=>rw[J]at e;cases e
      |true=>
      rw[J,bG]at e;have J:=aJ J;cases hpl:Dh h' c with
      |false=>rw[hpl]at e;cases e
      |true=>
       rw[hpl]at e;cases e;obtain⟨vsc,elc,hcobj⟩:=MC hpl;obtain⟨hke,hdf',fd,vd,hsd,hrd,hdd⟩:=aaT hend;obtain⟨K,Shun,a,q,hKP,hKW0,hKB,hA,h0,hO,hL,hP⟩:=HM;rw[hdf]at hO hP;obtain⟨ι,fr,k,rfl,hB,R,HS,S,_,_⟩:=hO;refine Reaches.then (Nr (w0:=w) (B:=w.heap.size) (d:=0) rfl _ V w Y t q rfl rfl h0 hL hP ⟨w.drawn,rfl⟩) ?_
       rintro A w1 sl1 t1 ⟨hN1,h01,⟨x1,rfl⟩,q1,hL1,hP1,dr,sl2,hpk⟩
       have S1:Sat K ι s.h ((w.at x1).at dr):=S.rely (kX.drawn w dr);obtain⟨fs,as,v,hargs,u,R',hspawn⟩:=rW (main:=true) (cs:=k++Z) X.F X.FF R hsp;have hpos:0<A.size:=(aV.1 h01).1;have hrunT:=runT_crowd_spawn (P:=P) (sl:=sl2) (i:=0) h01 (show stepG P (0==0) _ ((w.at x1).at dr)=_ from hspawn _);obtain⟨p,ob,hp,hb1,hown,hlt,O,ca,lo,hi,rfl,⟨l1,l2,M,hv⟩,z1,z2,z3⟩:=S1.at hwg trivial;obtain⟨rfl,rfl⟩:=(z3 rfl).2 rfl;have hca:ca=#[.int .u64 KK,.int .u32 0]:=by
        have hl2:l2=[]:=by
         have e1:=z1 rfl;have e2:=gu List.length M;have e3:=hv.length;simp at e1 e2 e3;exact bM.1 (by omega)
        subst hl2;obtain⟨v1,r1,e1,hv1,hr1⟩:=bf hv;obtain⟨v2,r2,e2,hv2,hr2⟩:=bf hr1;rw[bU hr2]at e2;unfold RV at hv1 hv2;subst hv1;subst hv2;apply dH.1;rw[M,e1,e2];rfl
       subst hca;have hgrp:WgAt L.tWg p.1 ((w.at x1).at dr) KK 0:=O;have hSW:∀l,Shun l->¬OfWg p.1 l:=λl hs ⟨y,hy,hyb⟩=>(hA l p.1 hs (by rw[hy];simp[Aq,hyb])).1 ⟨hb1,hown⟩;have SM:vJ K ι (λi o=>s.h.tr.get i=some o) ((w.at x1).at dr):=S1.toM λ_ _ h _=>h;have hdead:∀i o,(s.h.put Q .dead).tr.get i=some o->o.live->s.h.tr.get i=some o∧¬i=Q:=λi o hi M=>by
        have hi:(s.h.tr.set Q .dead).get i=some o:=hi;rcases Tr.uD hi with⟨rfl,rfl⟩|⟨h1,h2⟩
        .exact M.elim
        .exact⟨h2,h1⟩
       have SW:=SM.less (X:=λi=>i=Q) (h:=s.h.put Q .dead) hdead;obtain⟨z,hK'⟩:∃z,z=Ctx.less K ι (λi o=>s.h.tr.get i=some o) (λi=>i=Q) ((w.at x1).at dr) SM.lo SM.lt:=⟨_,rfl⟩;rw[← hK']at SW;have C:Of z P E:=by rw[hK'];exact⟨hKP.P,hKP.mem,hKP.pk⟩
       have j:¬z.own p.1:=by
        rw[hK']
        rintro⟨_,hx⟩
        have ho:s.h.tr.get Q=some (.cells [.int .u64 KK,.int .u32 0] L.tWg false false):=AH.uO hwg trivial;exact hx ⟨Q,_,p,rfl,ho,trivial,hp,rfl⟩
       have f:Sub z K:=by rw[hK'];exact uQ
       have hA':V7 z (λl=>Shun l∨OfWg p.1 l):=λl b M O=>by
        refine⟨?_,?_⟩
        .rintro⟨h1,h2⟩
         rcases M with M|⟨y,hy,hyb⟩
         .exact(hA l b M O).1 ⟨by rw[← f.base];exact h1,f.own _ h2⟩
         .rw[hy]at O
          simp only[Aq,dh]at O;exact j (by rw[← hyb,O];exact h2)
        .rintro⟨h1,h2⟩
         rcases M with M|⟨y,hy,hyb⟩
         .exact(hA l b M O).2 ⟨f.peek h1,by rw[← f.base];exact h2⟩
         .rw[hy]at O
          simp only[Aq,dh]at O;rw[f.base]at h2;exact hb1 (by rw[← hyb,O];exact h2)
       have hA0:V7 z Shun:=λl b M O=>hA' l b (.inl M) O;have r:=hf2;unfold jJ at r;split at r
       .rename_i cw nw rsw xw hgw
        have hfd:f2.x.deferred=true:=by
         cases hble:Nat.ble args.length nw with
         |false=>rw[hble]at r;cases r
         |true=>rw[hble]at r;cases r;rfl
        have RW:RF ι f2 (Frame.enter P g ((fs++as)++v) .deferred):=lV X.FF hf2 (vs:=(fs++as)++v) hargs rfl;have hdfw:(s.h.put Q .dead).df=0:=hdf;have hO2:OAt z ι [bot P] ⟨f2,[],s.h.put Q .dead⟩ 0 (G (Frame.enter P g ((fs++as)++v) .deferred) [bot P]) ((w.at x1).at dr):=⟨ι,_,[],rfl,hB,RW,rfl,SW,hdfw.symm,λ_ _ h=>h⟩;let Stop:Nat->Goroutine->World->Prop:=λd b ws=>d=0∧V9 P L.tWg p.1 z b ws∧∃ι',Sat z ι' h' ws∧Ext ι ι'∧Bare ι' h'.nx;have hwalk:Walk P false z Stop 0 (born P { target:= .fn (.func g) v,args:=fs++as }) ((w.at x1).at dr):=by
         refine Walk.of rfl λD hr₁=>⟨_,D,#[],Y3 X.FF hgw fs as v D,iG.refl D,?_⟩;show Walk P false z Stop 0 _ D;refine((OD (main:=false) X.F X.FF C n (out:=out) m _ hO2).rely hr₁).bind ?_
         rintro d2 g2 w2 ⟨ι2,fr2,frs2,rfl,b1,b2,b3,b4,rfl,b5⟩
         rw[hke]at b3;have b3:frs2=[]:=b3;subst b3;refine Walk.of rfl λw₃ hr₃=>?_;have ok:yg P false z ι2 _ w₃ fr2 ([]++[bot P]) _:=step_ok C X.F X.FF (b4.rely hr₃) b2 hsd;obtain⟨ι3,fr3,vs3,w4,es,k1,k2,k3,k4,⟨k5,k5'⟩,k6,k7⟩:=ok (b1.free J);have hE3:Ext ι ι3:=b5.trans (k2.ext (b1.free J));obtain⟨v3,rfl,hv3⟩:=args1 k4;obtain⟨p3,hp3,rfl⟩:=jF hv3;rw[hE3 _ _ hp]at hp3;cases hp3;refine⟨_,w4,es,k1,k6,.stop λw₅ hr₅=>⟨k7.trans hdf',?_,ι3,k3.rely hr₅,hE3,b1.grow k2⟩⟩;have S5:=k3.rely hr₅;exact ac6 X.F X.FF H C S5 j (by have:=S5.lo;rw[hK']at this;exact jv hlt this) hcobj hdd hrd k5 k5'
        have hP1':mW Shun ((w.at x1).at dr).heap.size 0 t1:=hP1;have hj:A.size≠0:=by omega
        have hfork:=Jo.fork hP1' hj (hL1.above _ (aj _)) hSW (G fr (k++Z)).frame.fn (born P { target:= .fn (.func g) v,args:=fs++as }).frame.fn (G fr (k++Z)).frame.place (G fr (k++Z)).frame.place;refine Reaches.step (by rw[hpk];exact hrunT) ?_;rw[afB];obtain⟨mj,hmj⟩:=acN (P:=P) (ty:=L.tWg) X hwait hp (k++Z) hcall R';have hPA:PA P L.tWg p.1 A.size (λa=>∃u,EJ ι fw dw u∧Gv P L.tWg p.1 u (k++Z) a) Shun false KK 0 0 3 mj none ((A.setIfInBounds 0 (G u (k++Z))).push (born P { target:= .fn (.func g) v,args:=fs++as })) ((w.at x1).at dr) _ (G u (k++Z)) (born P { target:= .fn (.func g) v,args:=fs++as }) q1:=
         ⟨by rw[Array.getElem?_push_lt (by simpa using hpos)];simp[hpos],by rw[show A.size=(A.setIfInBounds 0 (G u (k++Z))).size by simp];exact Array.getElem?_push_size,.ld hmj,hgrp,λ_=>rfl,rfl,⟨λi x h1 h2 hx=>(by
          have hx':A[i]? =some x:=by
           rw[lG,ah (by simpa using h2),bW (by omega)]at hx;exact hx
          rw[NU];exact hL1.old i x h1 hx'),λi hi=>(by
          rw[NU];exact hL1.above i (by simp at hi;omega))⟩,hfork⟩
        have hKW:¬z.fz p.1:=by rw[f.base];exact hb1
        refine Reaches.then (st0 (Fin:=λa=>∃u,EJ ι fw dw u∧Gv P L.tWg p.1 u (k++Z) a) hj hSW hA0 j hKW _ (λd b w hs=>⟨hs.1,hs.2.1⟩) hwalk _ sl2 _ q1 _ false KK 0 3 mj _ (kX.refl _) rfl (λh=>by cases h) hPA) ?_
        rintro gs4 w4 sl4 t4 ⟨b4,ws,⟨_,_,ι',S',hE',hB'⟩,a4,q4,hN4,h04,⟨fr4,hw4,n4,hm4⟩,hL4,hP4,N,hg4⟩
        refine Reaches.then (acH (ty:=L.tWg) (Wg:=p.1) (λd g hs=>by rw[hs.2];rfl) hg4 n4 _ a4 0 gs4 w4 sl4 t4 q4 rfl rfl h04 hm4 hL4 hP4 ⟨w4.drawn,rfl⟩) ?_
        rintro gs5 w5 sl5 t5 ⟨d5,a5,q5,hN5,h05,⟨rfl,rfl⟩,⟨x5,rfl⟩,hL5,hP5⟩
        have hrel:kX z ws (w4.at x5):=⟨N.size,λx _ hx=>N.block x λe=>j (e▸hx),λx hx=>N.block x (λe=>hKW (e▸hx)),N.os,N.tape,N.output⟩;refine .here ⟨z,_,_,q5,C,by rw[f.W0];exact hKW0,by rw[f.base];exact hKB,hA',h05,⟨ι',fr4.finish (.tuple #[]),k,rfl,hB',?_,HS.mono hE',S'.rely hrel,rfl,λi p h=>(by cases h)⟩,hL5,?_⟩
        .have:=(hw4 (.gI []) (.tuple #[]) (by unfold RV;exact⟨#[],rfl,dG⟩)).mono hE'
         obtain⟨x,tm,td,ds,rt⟩:=fw;exact this
        .show mW _ _ h'.df t5
         rw[hdf'];exact hP5
       .cases r
     .cases e
    .cases e
  .cases e
 .cases e
end
end
section
open Go.Conc (G)
variable{g:FuncId}{n:Nat}
def Does(P:Program)(E:Env)(f:AF)(h:AH)(v:AV)(h':AH):Prop:=
 h.nx<=h'.nx∧∀(K:Ctx) (ι:Nm) (w:World) (fr c:Frame) (a:List Frame),Of K P E->Sat K ι h w->RF ι f fr->(fr.kind= .deferred->Calm c)->Free ι h.nx h'.nx->
  Walk P true K (kJ K ι h.nx fr.kind c a v h') h.df (G fr (c::a)) w
def DoesC(P:Program)(E:Env)(g:FuncId)(args:List AV)(h:AH)(v:AV)(h':AH):Prop:=h.nx<=h'.nx∧Oi P true E g args false h v h'
section
variable{P:Program}{E:Env}{f f':AF}{h h1 Y Z:AH}{v u:AV}
theorem DoesC.enter(FF:eU P E){g:FuncId}{args:List AV}(e:jJ E g args false=some f)(H:Does P E f h v Z):DoesC P E g args h v Z:=
 ⟨H.1,λK ι w vs c a b S d _ i=>H.2 K ι w (Frame.enter P g vs .normal) c a b S (lV FF e d rfl) (λj=>by cases j) i⟩
open Classical in
noncomputable def aeB(f:AF)(h:AH)(p:AV×AH):nR:=λf' Z=>if f'=f∧Z=h then some p else none
theorem aal{p q:AV×AH}(e:aeB f h p f' Z=some q):f'=f∧Z=h∧q=p:=by
 unfold aeB at e;split at e
 .rename_i a;cases e;exact⟨a.1,a.2,rfl⟩
 .cases e
theorem Does.one(H:Does P E f h v Z):CB P E true (aeB f h (v,Z)):=by
 intro K ι w fr c a j k v1 b d e S R g i;obtain⟨rfl,rfl,e2⟩:=aal e;cases e2;exact H.2 K ι w fr c a d S R g i
theorem aao:CB P E true (λ_ _=>none):=λ_ _ _ _ _ _ _ _ _ _ _ e=>by cases e
theorem aan:nR.Up (λ_ _=>none):=λ_ _ _ _ e=>by cases e
theorem Does.ret(F:Fits P E)(FF:eU P E)(e:iZ E f h=some (.ret v Z)):Does P E f h v Z:=by
 refine⟨by have:=qo e;exact this,λK ι w fr c a b S R d g=>?_⟩;exact QM F FF aao aan (JH F FF (λ_=>Jv aao FF) (λ_=>Di aan)) K ι w fr c a f h v Z b (by simp only[e];rfl) S R d g
def AtF(K:Ctx)(ι:Nm)(nx:Nat)(cs:List Frame)(f':AF)(Z:AH):Nat->Goroutine->World->Prop:=λd g w=>
 ∃ι' a,g=G a cs∧Grow ι ι' nx Z.nx∧Sat K ι' Z w∧RF ι' f' a∧d=Z.df
def DoesS(P:Program)(E:Env)(f:AF)(h:AH)(f':AF)(Z:AH):Prop:=
 h.nx<=Z.nx∧f'.x=f.x∧∀(K:Ctx) (ι:Nm) (w:World) (fr:Frame) (cs:List Frame),Of K P E->Sat K ι h w->RF ι f fr->Free ι h.nx Z.nx->
  Walk P true K (AtF K ι h.nx cs f' Z) h.df (G fr cs) w
theorem DoesS.refl(f:AF)(h:AH):DoesS P E f h f h:=
 ⟨aj _,rfl,λ_ ι _ fr _ _ S R _=> .stop λ_ hr=>⟨ι,fr,rfl,Grow.refl _ _,S.rely hr,R,rfl⟩⟩
theorem DoesS.trans{e:AF}(A:DoesS P E f h f' h1)(B:DoesS P E f' h1 e Y):DoesS P E f h e Y:=by
 refine⟨aS A.1 B.1,B.2.1.trans A.2.1,λK ι w fr cs i S R j=>?_⟩;refine(A.2.2 K ι w fr cs i S R (j.sub (aj _) B.1)).bind ?_
 rintro d g w' ⟨ι',c,rfl,k,g2,l,rfl⟩
 refine(B.2.2 K ι' w' c cs i g2 l (k.free j)).mono ?_
 rintro d g m ⟨a,b,rfl,k1,n,o,rfl⟩
 exact⟨a,b,rfl,k.trans k1,n,o,rfl⟩
theorem Does.of(A:DoesS P E f h f' h1)(B:Does P E f' h1 v Z):Does P E f h v Z:=by
 refine⟨aS A.1 B.1,λK ι w fr c a e S R m i=>?_⟩;refine(A.2.2 K ι w fr (c::a) e S R (i.sub (aj _) B.1)).bind ?_
 rintro d g w' ⟨ι',b,rfl,j,g2,k,rfl⟩
 have l:b.kind=fr.kind:=R.ou k A.2.1;have W:=B.2 K ι' w' b c a e g2 k (by rw[l];exact m) (j.free i);rw[l]at W;exact W.mono λ_ _ _ H=>kJ.up j H
theorem DoesS.go(F:Fits P E)(FF:eU P E)(e:iZ E f h=some (.go f' h1)):DoesS P E f h f' h1:=by
 refine⟨by have:=qo e;exact this,yI e,λK ι w fr cs j S R k=>?_⟩;refine Walk.of rfl λd a=>?_;have b:yg P true K ι h d fr cs _:=step_ok j F FF (S.rely a) R e;obtain⟨ι',g,w',es,k1,l,m,n,o,p⟩:=b k;exact⟨_,w',es,k1,o,.stop λi c=>⟨ι',g,rfl,l,m.rely c,n,p⟩⟩
theorem DoesS.call(F:Fits P E)(FF:eU P E){d:Option Tmp}{g:FuncId}{args:List AV}(e:iZ E f h=some (.call f' d g args h1))(C:DoesC P E g args h1 u Y):DoesS P E f h (yJ (f',d) u) Y:=by
 have z:h.nx<=h1.nx:=qo e;have n:f'.x=f.x:=yI e;refine⟨aS z C.1,n,λK ι w fr cs p S R q=>?_⟩;refine Walk.of rfl λj b=>?_;have k:=S.rely b;have c:yg P true K ι h j fr cs _:=step_ok p F FF k R e;have o:=C.1;obtain⟨ι',l,vs,w',es,k1,r,A,B,⟨D,G⟩,H,I⟩:=c (q.sub (aj _) o);have m:=r.free q;refine⟨_,w',es,k1,H,?_⟩;rw[I];refine(C.2 K ι' w' vs l cs p A B (λn=>by cases n) m).bind ?_
 rintro N g' J ⟨a,s,rfl,t,g2,L,rfl⟩
 have M:=t.ext m;exact .stop λy i=>⟨a,l.finish s,rfl,r.trans t,g2.rely i,D a u s M L,rfl⟩
theorem DoesS.drawn(F:Fits P E)(FF:eU P E){x:AX}{tm:Tr AV}{ops:Array Oper}{k:List AI}{ds:List AD}{r:Nat->yc}{p:Tr AV×AH}(e:iZ E f h=some (.drawn x tm ops k ds h1))(D:wS ops.toList (Region.before ops) ops=true)
 (hr:∀i,EL P true E (r i))(s:∀i,(r i).Up)(hp:uJ E r x (Region.before ops) ops h1 ops.toList 0 tm [] [] [] h1=some p):DoesS P E f h ⟨x,p.1,k,ds,false⟩ p.2:=by
 have H:h.nx<=h1.nx:=qo e;have y:=OE s _ _ _ _ _ _ _ _ hp;have I:x=f.x:=yI e;refine⟨aS H y,I,λK ι w fr cs z S R A=>?_⟩;refine Walk.of rfl λa m=>?_;have b:=S.rely m;have n:yg P true K ι h a fr cs _:=step_ok z F FF b R e;obtain⟨rfl,t,d,k',k1,J,L⟩:=n;refine⟨_,_,#[],k1,iG.drawn a d,?_⟩;have W:=JH F FF hr s K ι { a with drawn:=d } x tm ds ops t k' _ cs h1 p.1 p.2 z (b.drawn d) L D hp A;refine W.bind ?_
 rintro V g' M ⟨c,g,rfl,B,N,j,rfl⟩
 have O:=B.ext A;refine Walk.of rfl λl o=>?_;have Q:=j.todo;have T:=j.mode;refine⟨G { g with todo:=k' } cs,l,#[],by simp[G,stepG,T,stepG.exec,Q],iG.refl l,?_⟩;have U:RF c ⟨x,p.1,k,ds,false⟩ { g with todo:=k' }:=⟨j.fn,j.tm,J.mono O,j.ds,by simpa using j.mode,j.kind,j.round⟩;exact .stop λC q=>⟨c,_,rfl,B,(N.rely o).rely q,U,rfl⟩
theorem DoesC.of_run(F:Fits P E)(FF:eU P E){args:List AV}{p:AV×AH}(e:E8 E (vW E n) g args false h=some p):DoesC P E g args h p.1 p.2:=
 ⟨vX (Js n) e,Oi.Xe (runF_ok F FF n) FF e⟩
end
end
section
open Go.Conc (G)
variable{g:FuncId}{i:Nat}{obs:List Prop}
inductive DA where
 |c
 |s
 |v (v:AV)
 |l (v:AV) (h':AH)
 |k (v:AV) (h':AH)
inductive UK where
 |n (k:Nat)
 |br (b:Bool)
 |s
 |v (v:AV)
 |l (v:AV) (h':AH)
 |k (v:AV) (h':AH)
 |d (l:List DA)
noncomputable def goN(E:Env)(k:Nat):AF->AH->Option (AF×AH):=
 @Nat.rec (λ_=>AF->AH->Option (AF×AH)) (λf h=>some (f,h)) (λ_ a f h=>match iZ E f h with
  |some (.go f' h')=>a f' h'
  |_=>none) k
noncomputable def Hg(E:Env)(b:Array Nat)(q:DQ):List (Nat×AH)->List Prop
 |[]=>[]
 |p::l=>cond ((b.getD p.1 0).testBit q.i||l.any λx=>(b.getD q.i 0).testBit x.1) (Hg E b q l) ((fD q.op E q.tm p.2=some q.v)::Hg E b q l)
noncomputable def Dc(E:Env)(b:Array Nat)(a:List (Nat×AH))(h0:AH):List DQ->List Prop
 |[]=>[]
 |q::c=>cond (a.any λp=>(b.getD q.i 0).testBit p.1) (Hg E b q a++Dc E b a h0 c) ((fD q.op E q.tm h0=some q.v)::(Hg E b q a++Dc E b a h0 c))
abbrev RP:=Option (Tr AV×AH×List Prop)
def RP.add(l:List Prop):RP->RP
 |some (tm,h,m)=>some (tm,h,l++m)
 |none=>none
noncomputable def y8(P:Program)(E:Env)(x:AX)(b:Array Nat)(ops:Array Oper)(h0:AH):List DA->List Oper->Nat->Tr AV->List DQ->List (Nat×AH)->List (Nat×Nat×AO)->AH->RP
 |_,[],_,tm,d,e,ps,h=>cond (qB b e.reverse) (some (tm,pJ ps h,Dc E b e.reverse h0 d)) none
 |[],_::_,_,_,_,_,_,_=>none
 |a::as,o::os,i,tm,d,e,ps,h=>match a with
  | .s=>RP.add [dU o ops tm=some false] (y8 P E x b ops h0 as os (Nat.succ i) (fin x o.dst iw tm) d e ps h)
  | .v v=>cond (jZ o.op) none (RP.add [dU o ops tm=some true,fD o.op E tm h=some v] (y8 P E x b ops h0 as os (Nat.succ i) (fin x o.dst v tm) (cond (kG o.op) (⟨o.op,i,tm,v⟩::d) d) e ps h))
  | .l v h'=>cond (jZ o.op) (cond (Nat.blt h.nx 1000000) (RP.add [dU o ops tm=some true,fQ o.op E tm h=some (.val v h')] (y8 P E x b ops h0 as os (Nat.succ i) (fin x o.dst v tm) d e ((i,h.nx,h'.obj h.nx)::ps) ⟨h.tr,h'.nx,h'.df⟩)) none) (match wake (b.getD i 0) ps h with
    |(j,ps)=>RP.add [dU o ops tm=some true,fD o.op E tm h=none,fQ o.op E tm j=some (.val v h')] (y8 P E x b ops h0 as os (Nat.succ i) (fin x o.dst v tm) d ((i,h')::e) ps h'))
  | .k v h'=>cond (jZ o.op) none (match dU o ops tm,fD o.op E tm h with
    |some true,none=>(match wake (b.getD i 0) ps h with
     |(j,ps)=>(match fQ o.op E tm j with
      |some (.call g args)=>(match E.ft.get g with
       |some ⟨some _,_,_,_⟩=>RP.add [DoesC P E g args j v h'] (y8 P E x b ops h0 as os (Nat.succ i) (fin x o.dst v tm) d ((i,h')::e) ps h')
       |_=>none)
      |_=>none))
    |_,_=>none)
  | .c=>match dU o ops tm with
    |none=>none
    |some false=>y8 P E x b ops h0 as os (Nat.succ i) (fin x o.dst iw tm) d e ps h
    |some true=>cond (jZ o.op)
     (match fQ o.op E tm h with
      |some (.val v h')=>cond (Nat.blt h.nx 1000000) (y8 P E x b ops h0 as os (Nat.succ i) (fin x o.dst v tm) d e ((i,h.nx,h'.obj h.nx)::ps) ⟨h.tr,h'.nx,h'.df⟩) none
      |_=>none)
     (match fD o.op E tm h with
      |some v=>y8 P E x b ops h0 as os (Nat.succ i) (fin x o.dst v tm) (cond (kG o.op) (⟨o.op,i,tm,v⟩::d) d) e ps h
      |none=>(match wake (b.getD i 0) ps h with
       |(h,ps)=>(match vP E ⟨λ_ _ _=>none,λ_ _ _=>none⟩ h (fQ o.op E tm h)with
        |some p=>y8 P E x b ops h0 as os (Nat.succ i) (fin x o.dst p.1 tm) d ((i,p.2)::e) ps p.2
        |none=>none)))
noncomputable def ES(P:Program)(E:Env)(a:UK)(f:AF)(h:AH):Option (AF×AH×List Prop):=
 match a with
 | .n k=>(match goN E k f h with |some (f',h')=>some (f',h',[])|none=>none)
 | .br b=>(match f with
   |⟨x,tm,.code (.cond c p q)::k,ds,false⟩=>some (⟨x,tm,.code (cond b p q)::k,ds,false⟩,h,[ev tm c= .bool b])
   |_=>none)
 | .s=>(match f with
   |⟨x,tm,.inRegion ops (o::rest)::k,ds,false⟩=>some (⟨x,fin x o.dst iw tm,NM ops rest k,ds,false⟩,h,[dU o ops tm=some false])
   |_=>none)
 | .v v=>(match f with
   |⟨x,tm,.inRegion ops (o::rest)::k,ds,false⟩=>some (⟨x,fin x o.dst v tm,NM ops rest k,ds,false⟩,h,[dU o ops tm=some true,fD o.op E tm h=some v])
   |_=>none)
 | .l v h'=>(match f with
   |⟨x,tm,.inRegion ops (o::rest)::k,ds,false⟩=>some (⟨x,fin x o.dst v tm,NM ops rest k,ds,false⟩,h',[dU o ops tm=some true,fD o.op E tm h=none,fQ o.op E tm h=some (.val v h')])
   |_=>none)
 | .k v h'=>(match iZ E f h with
   |some (.call f' d g args h1)=>some (yJ (f',d) v,h',[DoesC P E g args h1 v h'])
   |_=>none)
 | .d l=>(match iZ E f h with
   |some (.drawn x tm ops k ds h1)=>cond (wS ops.toList (Region.before ops) ops) (match y8 P E x (Region.before ops) ops h1 l ops.toList 0 tm [] [] [] h1 with
    |some (e,h2,obs)=>some (⟨x,e,k,ds,false⟩,h2,obs)
    |none=>none) none
   |_=>none)
noncomputable def yu(P:Program)(E:Env):List UK->AF->AH->Option (AF×AH×List Prop)
 |[],f,h=>some (f,h,[])
 |a::l,f,h=>match ES P E a f h with
  |some (b,h1,c)=>(match yu P E l b h1 with
   |some (d,h2,e)=>some (d,h2,c++e)
   |none=>none)
  |none=>none
def All:List Prop->Prop
 |[]=>True
 |[p]=>p
 |p::q::l=>p∧All (q::l)
theorem All.mem:∀{l:List Prop},All l->∀p∈l,p
 |[],_,_,hp=>by cases hp
 |[q],h,p,hp=>by rw[bY]at hp;rw[hp];exact h
 |q::r::l,h,p,hp=>by
  rcases ay.1 hp with rfl|hp
  .exact h.1
  .exact All.mem h.2 p hp
section
variable{P:Program}{E:Env}{f Y:AF}{h Z W X:AH}{v u:AV}
theorem aaJ(F:Fits P E)(FF:eU P E):∀(k:Nat) (f:AF) (h:AH),goN E k f h=some (Y,Z)->DoesS P E f h Y Z
 |0,f,h,e=>by cases e;exact DoesS.refl _ _
 |k+1,f,h,e=>by
  have e:(match iZ E f h with |some (.go Y X)=>goN E k Y X|_=>none)=some (Y,Z):=e;split at e
  .rename_i a W b;exact(DoesS.go F FF b).trans (aaJ F FF k a W e)
  .cases e
open Classical in
noncomputable def rOf(P:Program)(E:Env)(l:List DA)(i:Nat):yc:=⟨λg args h=>match l[i]? with
 |some (.k v X)=>if DoesC P E g args h v X then some (v,X)else none
 |_=>none,λ_ _ _=>none⟩
theorem WZ{l:List DA}{args:List AV}{p:AV×AH}(e:(rOf P E l i).call g args h=some p):DoesC P E g args h p.1 p.2:=by
 simp only[rOf]at e;split at e
 .split at e
  .rename_i a;cases e;exact a
  .cases e
 .cases e
theorem ZW(l:List DA)(i:Nat):EL P true E (rOf P E l i):=⟨λg args h p e=>(WZ e).2,λl args h p e=>by cases e⟩
theorem ZV(l:List DA)(i:Nat):(rOf P E l i).Up:=⟨λg args h p e=>(WZ e).1,λl args h p e=>by cases e⟩
theorem RP.Gm{l:List Prop}{r:RP}{tm:Tr AV}{a:AH}{obs:List Prop}(e:RP.add l r=some (tm,a,obs)):∃m,r=some (tm,a,m)∧obs=l++m:=by
 unfold RP.add at e;split at e
 .cases e;exact⟨_,rfl,rfl⟩
 .cases e
mutual
theorem AV.beq_refl:∀a:AV,AV.beq a a=true
 | .any| .one| .pO| .aQ| .emp| .pF| .um| .uj=>by simp[AV.beq]
 | .bool _| .int _ _| .str _=>by simp[AV.beq]
 | .ptr _ _| .sl _ _ _ _| .map _| .yield _| .aO _ _ _=>by simp[AV.beq]
 | .fn _ a b=>by simp[AV.beq,AV.zA a,AV.zA b]
 | .iface _ v=>by simp[AV.beq,AV.beq_refl v]
 | .agg l=>by simp[AV.beq,AV.zA l]
 | .gI l=>by simp[AV.beq,AV.zA l]
theorem AV.zA:∀l:List AV,AV.BZ l l=true
 |[]=>by simp[AV.BZ]
 |a::l=>by simp[AV.BZ,AV.beq_refl a,AV.zA l]
end
theorem NY{q:DQ}(e:fD q.op E q.tm h=some q.v):EH E q h=true:=by unfold EH;rw[e];exact AV.beq_refl _
theorem Df{b:Array Nat}{q:DQ}:∀(l:List (Nat×AH)),(∀p∈Hg E b q l,p)->uK E b q l=true
 |[],_=>rfl
 |p::l,H=>by
  unfold Hg at H;unfold uK;cases a:((b.getD p.1 0).testBit q.i||l.any λx=>(b.getD q.i 0).testBit x.1)with
  |true=>rw[a]at H;simp only[bG]at H ⊢;exact Df l H
  |false=>
   rw[a]at H;simp only[bH]at H ⊢;rw[NY (H _ (dA ..)),Df l λp hp=>H p (aY _ hp)];rfl
theorem Em{b:Array Nat}{a:List (Nat×AH)}{h0:AH}:∀(c:List DQ),(∀p∈Dc E b a h0 c,p)->c.all (su E b a h0)=true
 |[],_=>rfl
 |q::c,H=>by
  unfold Dc at H;simp only[List.all_cons];cases d:(a.any λp=>(b.getD q.i 0).testBit p.1)with
  |true=>
   rw[d]at H;simp only[bG]at H;rw[Em c λp hp=>H p (iH _ hp)];unfold su;rw[d,Df a λp hp=>H p (iq _ hp)];rfl
  |false=>
   rw[d]at H;simp only[bH]at H;rw[Em c λp hp=>H p (aY _ (iH _ hp))];unfold su;rw[d,Df a λp hp=>H p (aY _ (iq _ hp)),bH,NY (H _ (dA ..))];rfl
theorem Vq{r:yc}{o:Option OR}{p:AV×AH}(e:vP E ⟨λ_ _ _=>none,λ_ _ _=>none⟩ h o=some p):vP E r h o=some p:=by
 unfold vP at e ⊢;split at e
 .exact e
 .split at e
  .cases e
  .exact e
  .cases e
 .cases e
 .cases e
theorem WU{x:AX}{b:Array Nat}{ops:Array Oper}{h0:AH}(L:List DA):∀(as:List DA) (os:List Oper) (i:Nat) (tm:Tr AV) (D:List DQ) (C:List (Nat×AH)) (ps:List (Nat×Nat×AO)) (h:AH) (w:Tr AV) (X:AH) (obs:List Prop),
 (∀j a,as[j]? =some a->L[i+j]? =some a)->y8 P E x b ops h0 as os i tm D C ps h=some (w,X,obs)->(∀p∈obs,p)->uJ E (rOf P E L) x b ops h0 os i tm D C ps h=some (w,X):=by
 intro as os;induction os generalizing as with
 |nil=>
  intro i tm D C ps h w X obs I e H;have e:cond (qB b C.reverse) (some (tm,pJ ps h,Dc E b C.reverse h0 D)) none=some (w,X,obs):=by
   cases as<;>exact e
  cases J:qB b C.reverse with
  |false=>rw[J]at e;cases e
  |true=>
   rw[J]at e;cases e;unfold uJ;rw[J,Em D H];rfl
 |cons o os A=>
  intro i tm D C ps h w X obs I e H;cases as with
  |nil=>cases e
  |cons a as=>
   have d:∀j a,as[j]? =some a->L[Nat.succ i+j]? =some a:=λj a hj=>by
    have:=I (j+1) a (by simpa using hj);rw[← this];congr 1;omega
   have K:L[i]? =some a:=by have:=I 0 a rfl;simpa using this
   unfold uJ;cases a with
   |s=>
    obtain⟨m,e1,rfl⟩:=RP.Gm (r:=y8 P E x b ops h0 as os (Nat.succ i) (fin x o.dst iw tm) D C ps h) e;have t:dU o ops tm=some false:=H _ (by simp);rw[t];exact A as _ _ _ _ _ _ _ _ _ d e1 λp hp=>H p (by simp[hp])
   |v v=>
    unfold y8 at e;cases y:jZ o.op with
    |true=>rw[y]at e;cases e
    |false=>
     rw[y]at e;simp only[bH]at e;obtain⟨m,e1,rfl⟩:=RP.Gm e;have t:dU o ops tm=some true:=H _ (by simp);have B:fD o.op E tm h=some v:=H _ (by simp);rw[t,B];simp only[bH];exact A as _ _ _ _ _ _ _ _ _ d e1 λp hp=>H p (by simp[hp])
   |l v Z=>
    unfold y8 at e;cases y:jZ o.op with
    |true=>
     rw[y]at e;simp only[bG]at e;cases F:Nat.blt h.nx 1000000 with
     |false=>rw[F]at e;cases e
     |true=>
      rw[F]at e;simp only[bG]at e;obtain⟨m,e1,rfl⟩:=RP.Gm e;have t:dU o ops tm=some true:=H _ (by simp);have G:fQ o.op E tm h=some (.val v Z):=H _ (by simp);rw[t];simp only[bG,G,F];exact A as _ _ _ _ _ _ _ _ _ d e1 λp hp=>H p (by simp[hp])
    |false=>
     rw[y]at e;simp only[bH]at e;cases q:wake (b.getD i 0) ps h with
     |mk z ps0=>
     rw[q]at e;simp only at e;obtain⟨m,e1,rfl⟩:=RP.Gm e;have t:dU o ops tm=some true:=H _ (by simp);have B:fD o.op E tm h=none:=H _ (by simp);have G:fQ o.op E tm z=some (.val v Z):=H _ (by simp);rw[t,B];simp only[bH,q,G,vP];exact A as _ _ _ _ _ _ _ _ _ d e1 λp hp=>H p (by simp[hp])
   |k v Z=>
    unfold y8 at e;cases y:jZ o.op with
    |true=>rw[y]at e;cases e
    |false=>
     rw[y]at e;simp only[bH]at e;split at e
     .rename_i t B
      cases q:wake (b.getD i 0) ps h with
      |mk z ps0=>
      rw[q]at e;simp only at e;split at e
      .rename_i g args G
       split at e
       .rename_i c n Q ex N
        obtain⟨m,e1,rfl⟩:=RP.Gm e;have M:DoesC P E g args z v Z:=H _ (by simp);rw[t,B];simp only[bH,q,G,vP,N];have:(rOf P E L i).call g args z=some (v,Z):=by
         simp only[rOf,K];rw[aC M]
        rw[this];exact A as _ _ _ _ _ _ _ _ _ d e1 λp hp=>H p (by simp[hp])
       .cases e
      .cases e
     .cases e
   |c=>
    unfold y8 at e;simp only at e;cases t:dU o ops tm with
    |none=>rw[t]at e;cases e
    |some O=>
     cases O with
     |false=>rw[t]at e;exact A as _ _ _ _ _ _ _ _ _ d e H
     |true=>
      rw[t]at e;simp only at e ⊢;cases y:jZ o.op with
      |true=>
       rw[y]at e;simp only[bG]at e ⊢;split at e
       .rename_i v1 Z G
        rw[G];cases F:Nat.blt h.nx 1000000 with
        |false=>rw[F]at e;cases e
        |true=>rw[F]at e;simp only[F,bG]at e ⊢;exact A as _ _ _ _ _ _ _ _ _ d e H
       .cases e
      |false=>
       rw[y]at e;simp only[bH]at e ⊢;split at e
       .rename_i v1 B
        rw[B];exact A as _ _ _ _ _ _ _ _ _ d e H
       .rename_i B
        rw[B];cases q:wake (b.getD i 0) ps h with
        |mk z ps0=>
        rw[q]at e;simp only at e ⊢;split at e
        .rename_i p hp
         rw[Vq hp];exact A as _ _ _ _ _ _ _ _ _ d e H
        .cases e
theorem ZG(F:Fits P E)(FF:eU P E){a:UK}(e:ES P E a f h=some (Y,Z,obs))(H:∀p∈obs,p):DoesS P E f h Y Z:=by
 cases a with
 |n k=>
  simp only[ES]at e;split at e
  .rename_i z;cases e;exact aaJ F FF _ _ _ z
  .cases e
 |br b=>
  simp only[ES]at e;split at e
  .rename_i x tm c p q k ds
   cases e;have i:ev tm c= .bool b:=H _ (by simp);refine DoesS.go F FF (f':=⟨x,tm,.code (cond b p q)::k,ds,false⟩) (h1:=h) ?_;show(match ev tm c with | .bool t=>some (A1.go ⟨x,tm,.code (cond t p q)::k,ds,false⟩ h)|_=>none)=_;rw[i]
  .cases e
 |s=>
  simp only[ES]at e;split at e
  .rename_i x tm ops o g k ds
   cases e;have m:dU o ops tm=some false:=H _ (by simp);refine DoesS.go F FF (f':=⟨x,fin x o.dst iw tm,NM ops g k,ds,false⟩) (h1:=h) ?_;show qx E x tm ds h k ops o g=_;unfold qx;rw[m]
  .cases e
 |v w=>
  simp only[ES]at e;split at e
  .rename_i x tm ops o g k ds
   cases e;have m:dU o ops tm=some true:=H _ (by simp);have r:fD o.op E tm h=some w:=H _ (by simp);refine DoesS.go F FF (f':=⟨x,fin x o.dst w tm,NM ops g k,ds,false⟩) (h1:=h) ?_;show qx E x tm ds h k ops o g=_;unfold qx;rw[m];simp only;unfold opA;rw[r]
  .cases e
 |l w W=>
  simp only[ES]at e;split at e
  .rename_i x tm ops o g k ds
   cases e;have m:dU o ops tm=some true:=H _ (by simp);have r:fD o.op E tm h=none:=H _ (by simp);have A:fQ o.op E tm h=some (.val w Z):=H _ (by simp);refine DoesS.go F FF (f':=⟨x,fin x o.dst w tm,NM ops g k,ds,false⟩) (h1:=Z) ?_;show qx E x tm ds h k ops o g=_;unfold qx;rw[m];simp only;unfold opA;rw[r,A];rfl
  .cases e
 |k w W=>
  simp only[ES]at e;split at e
  .rename_i y
   cases e;exact DoesS.call F FF y (H _ (by simp))
  .cases e
 |d l=>
  simp only[ES]at e;split at e
  .rename_i x tm ops k ds W y
   cases i:wS ops.toList (Region.before ops) ops with
   |false=>rw[i]at e;cases e
   |true=>
    rw[i]at e;simp only[bG]at e;split at e
    .rename_i B C ob hr
     cases e;exact DoesS.drawn F FF y i (ZW l) (ZV l) (WU l l _ _ _ _ _ _ _ _ _ _ (λj a hj=>by simpa using hj) hr H)
    .cases e
  .cases e
theorem path_ok(F:Fits P E)(FF:eU P E):∀(l:List UK) (f:AF) (h:AH) {Y:AF} {Z:AH} {obs:List Prop},yu P E l f h=some (Y,Z,obs)->All obs->DoesS P E f h Y Z:=by
 intro l;induction l with
 |nil=>intro f h Y Z obs e _;cases e;exact DoesS.refl _ _
 |cons a l b=>
  intro f h Y Z obs e H;unfold yu at e;split at e
  .rename_i j W k g
   split at e
   .rename_i m n i he2
    cases e;have d:=All.mem H;refine(ZG F FF g (λp hp=>d p (iq _ hp))).trans (b _ _ he2 ?_);have:∀(l:List Prop),(∀p∈l,p)->All l:=by
     intro l;induction l with
     |nil=>intro _;trivial
     |cons p l b=>
      intro c;cases l with
      |nil=>exact c p (by simp)
      |cons q l=>exact⟨c p (by simp),b λr hr=>c r (aY _ hr)⟩
    exact this i λp hp=>d p (iH _ hp)
   .cases e
  .cases e
end
end
section
open Go.Conc (G)
mutual
def AV.ren(ρ:Nat->Nat):AV->AV
 | .ptr i o=> .ptr (ρ i) o
 | .sl i o l c=> .sl (ρ i) o l c
 | .map i=> .map (ρ i)
 | .yield i=> .yield (ρ i)
 | .fn f l m=> .fn f (AV.jM ρ l) (AV.jM ρ m)
 | .iface t v=> .iface t (AV.ren ρ v)
 | .agg l=> .agg (AV.jM ρ l)
 | .gI l=> .gI (AV.jM ρ l)
 |v=>v
def AV.jM(ρ:Nat->Nat):List AV->List AV
 |[]=>[]
 |v::l=>AV.ren ρ v::AV.jM ρ l
end
def AO.ren(ρ:Nat->Nat):AO->AO
 | .dead=> .dead
 | .cells vs e g z=> .cells (AV.jM ρ vs) e g z
 | .map es c=> .map (es.map λe=>⟨e.key.ren ρ,e.val.ren ρ,e.born⟩) c
 | .KE m s l p=> .KE (match m with |some i=>some (ρ i)|none=>none) s l p
 | .sit s p=> .sit s p
 | .loop st p fn nt tm ps x y d=> .loop st p fn nt (zk (AV.ren ρ) tm) ps x y (ρ d)
 | .yU z=> .yU z
mutual
def AV.low(n:Nat):AV->Bool
 | .ptr i _| .sl i _ _ _| .map i| .yield i=>Nat.blt i n||Nat.ble OLD i
 | .fn _ a b=>AV.fG n a&&AV.fG n b
 | .iface _ v=>AV.low n v
 | .agg l| .gI l=>AV.fG n l
 |_=>true
def AV.fG(n:Nat):List AV->Bool
 |[]=>true
 |a::l=>AV.low n a&&AV.fG n l
end
def yZ(n:Nat):Tr AV->Bool
 | .e=>true
 | .n l v r=>yZ n l&&(match v with |some a=>AV.low n a|none=>true)&&yZ n r
def acI(n i:Nat):Bool:=Nat.blt i n||Nat.ble OLD i
def AO.low(n:Nat):AO->Bool
 | .cells vs _ _ _=>AV.fG n vs
 | .map es _=>es.all λe=>e.key.low n&&e.val.low n
 | .KE (some m) _ _ _=>acI n m
 | .loop _ _ _ _ tm _ _ _ d=>yZ n tm&&acI n d
 |_=>true
def jG(n:Nat):Tr AO->Bool
 | .e=>true
 | .n l v r=>jG n l&&(match v with |some o=>AO.low n o|none=>true)&&jG n r
def Az(n:Nat)(ρ:Nat->Nat)(ι ι0:Nm):Prop:=∀i p,(i<n∨OLD<=i)->ι (ρ i)=some p->ι0 i=some p
section
variable{n:Nat}{ρ:Nat->Nat}{ι ι0:Nm}
theorem zn{n i:Nat}(h:(Nat.blt i n||Nat.ble OLD i)=true):i<n∨OLD<=i:=by
 simp only[iU]at h;exact h.imp (λh=>by rwa[dB]at h) aJ
mutual
theorem RV.iY(H:Az n ρ ι ι0):∀{x:AV} {v:Value},x.low n=true->RV ι (x.ren ρ) v->RV ι0 x v
 | .any,_,_,_=>by unfold RV;trivial
 | .one,_,_,h| .bool _,_,_,h| .int _ _,_,_,h| .str _,_,_,h| .pO,_,_,h| .aQ,_,_,h| .emp,_,_,h| .pF,_,_,h| .um,_,_,h| .uj,_,_,h| .aO _ _ _,_,_,h=>by
   unfold AV.ren at h;unfold RV at h ⊢;exact h
 | .ptr i o,v,a,h=>by
   unfold AV.ren at h;unfold RV at h ⊢;obtain⟨p,hi,e⟩:=h;exact⟨p,H i p (zn a) hi,e⟩
 | .sl i o l c,v,a,h=>by
   unfold AV.ren at h;unfold RV at h ⊢;obtain⟨p,hi,e⟩:=h;exact⟨p,H i p (zn a) hi,e⟩
 | .map i,v,a,h=>by
   unfold AV.ren at h;unfold RV at h ⊢;obtain⟨p,hi,e⟩:=h;exact⟨p,H i p (zn a) hi,e⟩
 | .yield i,v,a,h=>by
   unfold AV.ren at h;unfold RV at h ⊢;obtain⟨p,hi,e⟩:=h;exact⟨p,H i p (zn a) hi,e⟩
 | .fn f l m,v,a,h=>by
   unfold AV.low at a;simp only[aF]at a;unfold AV.ren at h;unfold RV at h ⊢;obtain⟨as,bs,e,h1,b⟩:=h;exact⟨as,bs,e,dS.iY H a.1 h1,dS.iY H a.2 b⟩
 | .iface t x,v,a,h=>by
   unfold AV.low at a;unfold AV.ren at h;unfold RV at h ⊢;obtain⟨y,e,h1⟩:=h;exact⟨y,e,RV.iY H a h1⟩
 | .agg l,v,a,h=>by
   unfold AV.low at a;unfold AV.ren at h;unfold RV at h ⊢;obtain⟨y,e,h1⟩:=h;exact⟨y,e,dS.iY H a h1⟩
 | .gI l,v,a,h=>by
   unfold AV.low at a;unfold AV.ren at h;unfold RV at h ⊢;obtain⟨y,e,h1⟩:=h;exact⟨y,e,dS.iY H a h1⟩
theorem dS.iY(H:Az n ρ ι ι0):∀{l:List AV} {vs:List Value},AV.fG n l=true->dS ι (AV.jM ρ l) vs->dS ι0 l vs
 |[],_,_,h=>by unfold AV.jM at h;rw[bU h];exact dG
 |x::l,_,a,h=>by
  unfold AV.fG at a;simp only[aF]at a;unfold AV.jM at h;obtain⟨v,r,rfl,h1,b⟩:=bf h;exact cO (RV.iY H a.1 h1) (dS.iY H a.2 b)
end
def UC(ρ:Nat->Nat)(ι0 ι:Nm):Prop:=∀i p,ι0 i=some p->ι (ρ i)=some p
mutual
theorem RV.ren(H:UC ρ ι0 ι):∀{x:AV} {v:Value},RV ι0 x v->RV ι (x.ren ρ) v
 | .any,_,_=>by unfold AV.ren RV;trivial
 | .one,_,h| .bool _,_,h| .int _ _,_,h| .str _,_,h| .pO,_,h| .aQ,_,h| .emp,_,h| .pF,_,h| .um,_,h| .uj,_,h| .aO _ _ _,_,h=>by
   unfold AV.ren;unfold RV at h ⊢;exact h
 | .ptr i o,v,h=>by
   unfold AV.ren;unfold RV at h ⊢;obtain⟨p,hi,e⟩:=h;exact⟨p,H i p hi,e⟩
 | .sl i o l c,v,h=>by
   unfold AV.ren;unfold RV at h ⊢;obtain⟨p,hi,e⟩:=h;exact⟨p,H i p hi,e⟩
 | .map i,v,h=>by
   unfold AV.ren;unfold RV at h ⊢;obtain⟨p,hi,e⟩:=h;exact⟨p,H i p hi,e⟩
 | .yield i,v,h=>by
   unfold AV.ren;unfold RV at h ⊢;obtain⟨p,hi,e⟩:=h;exact⟨p,H i p hi,e⟩
 | .fn f l m,v,h=>by
   unfold AV.ren;unfold RV at h ⊢;obtain⟨as,bs,e,h1,a⟩:=h;exact⟨as,bs,e,dS.ren H h1,dS.ren H a⟩
 | .iface t x,v,h=>by
   unfold AV.ren;unfold RV at h ⊢;obtain⟨y,e,h1⟩:=h;exact⟨y,e,RV.ren H h1⟩
 | .agg l,v,h=>by
   unfold AV.ren;unfold RV at h ⊢;obtain⟨y,e,h1⟩:=h;exact⟨y,e,dS.ren H h1⟩
 | .gI l,v,h=>by
   unfold AV.ren;unfold RV at h ⊢;obtain⟨y,e,h1⟩:=h;exact⟨y,e,dS.ren H h1⟩
theorem dS.ren(H:UC ρ ι0 ι):∀{l:List AV} {vs:List Value},dS ι0 l vs->dS ι (AV.jM ρ l) vs
 |[],_,h=>by unfold AV.jM;rw[bU h];exact dG
 |x::l,_,h=>by
  obtain⟨v,r,rfl,h1,a⟩:=bf h;unfold AV.jM;exact cO (RV.ren H h1) (dS.ren H a)
end
theorem yt(ρ:Nat->Nat):∀l:List AV,(AV.jM ρ l).length=l.length
 |[]=>by unfold AV.jM;rfl
 |x::l=>by unfold AV.jM;simp[yt ρ l]
theorem rE:∀{t:Tr AV},yZ n t=true->∀{i:Nat} {a:AV},t.get i=some a->a.low n=true
 | .e,_,i,a,e=>by rw[Tr.fO]at e;cases e
 | .n l v r,h,i,a,e=>by
   unfold yZ at h;simp only[aF]at h;rw[Tr.jS]at e;split at e
   .subst e;exact h.1.2
   .split at e
    .exact rE h.1.1 e
    .exact rE h.2 e
theorem pW:∀{t:Tr AO},jG n t=true->∀{i:Nat} {o:AO},t.get i=some o->o.low n=true
 | .e,_,i,a,e=>by rw[Tr.fO]at e;cases e
 | .n l v r,h,i,a,e=>by
   unfold jG at h;simp only[aF]at h;rw[Tr.jS]at e;split at e
   .subst e;exact h.1.2
   .split at e
    .exact pW h.1.1 e
    .exact pW h.2 e
theorem RT.iY(H:Az n ρ ι ι0){nt:Nat}{tm:Tr AV}{tmps:Array Value}(b:yZ n tm=true)(h:RT ι nt (zk (AV.ren ρ) tm) tmps):RT ι0 nt tm tmps:=by
 refine⟨h.1,λt x a=>?_⟩;exact RV.iY H (rE b a) (h.2 t (x.ren ρ) (by rw[qL,a];rfl))
theorem RT.ren(H:UC ρ ι0 ι){nt:Nat}{tm:Tr AV}{tmps:Array Value}(h:RT ι0 nt tm tmps):RT ι nt (zk (AV.ren ρ) tm) tmps:=by
 refine⟨h.1,λt x a=>?_⟩;rw[qL]at a;obtain⟨y,b,rfl⟩:=aP.1 a;exact(h.2 t y b).ren H
theorem yG.iY(H:Az n ρ ι ι0){l:List AE}{es:List MapEntry}(a:(l.all λe=>e.key.low n&&e.val.low n)=true)(h:yG ι (l.map λe=>⟨e.key.ren ρ,e.val.ren ρ,e.born⟩) es):yG ι0 l es:=by
 induction l generalizing es with
 |nil=>exact h
 |cons x l b=>
  simp only[List.all_cons,aF]at a;obtain⟨e,r,rfl,h1,c,d,f⟩:=h;exact⟨e,r,rfl,RV.iY H a.1.1 h1,RV.iY H a.1.2 c,d,b (by simpa using a.2) f⟩
theorem yG.ren(H:UC ρ ι0 ι){l:List AE}{es:List MapEntry}(h:yG ι0 l es):yG ι (l.map λe=>⟨e.key.ren ρ,e.val.ren ρ,e.born⟩) es:=by
 induction l generalizing es with
 |nil=>exact h
 |cons x l a=>
  obtain⟨e,r,rfl,h1,b,c,d⟩:=h;exact⟨e,r,rfl,h1.ren H,b.ren H,c,a d⟩
theorem AO.fF{o:AO}:(o.ren ρ).live↔o.live:=by cases o<;>exact Iff.rfl
theorem RO.iY{P:Program}{cap:Nat}(H:Az n ρ ι ι0){o:AO}{ob:Obj}(a:o.low n=true)(h:RO P ι cap (o.ren ρ) ob):RO P ι0 cap o ob:=by
 cases o with
 |dead=>trivial
 |cells vs el g fz=>
  obtain⟨c,lo,f,e,⟨l1,l2,e2,l⟩,h1,b,i⟩:=h;exact⟨c,lo,f,e,⟨l1,l2,e2,l.iY H a⟩,λr=>by have:=h1 r;rwa[yt]at this,b,i⟩
 |map es ck=>obtain⟨k,e,h1⟩:=h;exact⟨k,e,h1.iY H a⟩
 |KE m s seen st=>
  obtain⟨x,h1,b,e⟩:=h;refine⟨x,λj hj=>?_,λt=>?_,e⟩
  .subst hj
   obtain⟨p,hp,u⟩:=h1 (ρ j) rfl;exact⟨p,H j p (zn a) hp,u⟩
  .subst t;exact b rfl
 |sit s p=>exact h
 |loop st E fn nt tm ps x y d=>
  obtain⟨q,v,L,e,h1,b,i,w,A,B,C,D⟩:=h;unfold AO.low at a;simp only[aF]at a;exact⟨q,H d q (zn a.2) v,L,e,h1,b,i,w.iY H a.1,A,B,C,D⟩
 |yU z=>exact h
theorem RO.ren{P:Program}{cap:Nat}(H:UC ρ ι0 ι){o:AO}{ob:Obj}(h:RO P ι0 cap o ob):RO P ι cap (o.ren ρ) ob:=by
 cases o with
 |dead=>trivial
 |cells vs el g fz=>
  obtain⟨c,lo,b,e,⟨l1,l2,e2,l⟩,h1,a,f⟩:=h;exact⟨c,lo,b,e,⟨l1,l2,e2,l.ren H⟩,λr=>by rw[yt];exact h1 r,a,f⟩
 |map es ck=>obtain⟨k,e,h1⟩:=h;exact⟨k,e,h1.ren H⟩
 |KE m s seen st=>
  obtain⟨x,h1,a,e⟩:=h;refine⟨x,λj hj=>?_,λt=>?_,e⟩
  .cases m with
   |none=>cases hj
   |some i=>cases hj;obtain⟨p,hp,u⟩:=h1 i rfl;exact⟨p,H i p hp,u⟩
  .cases m with
   |none=>exact a rfl
   |some i=>cases t
 |sit s p=>exact h
 |loop st E fn nt tm ps x y d=>
  obtain⟨q,v,L,e,h1,a,f,w,A,B,C,D⟩:=h;exact⟨q,H d q v,L,e,h1,a,f,w.ren H,A,B,C,D⟩
 |yU z=>exact h
end
structure Zc(ρ:Nat->Nat)(h0 h0' h h':AH):Prop where
 le0:h0.nx<=h0'.nx
 top:h0'.nx<=OLD
 top':h'.nx<=OLD
 inj:∀i j,i<h0'.nx->j<h0'.nx->ρ i=ρ j->i=j
 low:∀i,i<h0.nx->ρ i<h.nx
 new:∀i,h0.nx<=i->i<h0'.nx->h.nx<=ρ i∧ρ i<h'.nx
 old:∀i,OLD<=i->ρ i=i
 le:h.nx<=h'.nx
 names:∀i o,h0.tr.get i=some o->o.live->i<h0.nx
 names':∀i o,h0'.tr.get i=some o->o.live->i<h0'.nx
 before:∀i o,h0.tr.get i=some o->o.live->h.tr.get (ρ i)=some (o.ren ρ)
 behind:∀i o,h'.tr.get i=some o->o.live->(∃j o0,h0'.tr.get j=some o0∧i=ρ j∧o=o0.ren ρ)∨(h.tr.get i=some o∧∀j o0,h0.tr.get j=some o0->o0.live->i≠ρ j)
 df:h0.df=h.df
 df':h0'.df=h'.df
 Yz:jG h0.nx h0.tr=true
theorem DoesC.frame{P:Program}{E:Env}{g:FuncId}{zD:List AV}{h0:AH}{v0:AV}{e:AH}(C:DoesC P E g zD h0 v0 e){ρ:Nat->Nat}{h h':AH}(L:Zc ρ h0 e h h')(ha:AV.fG h0.nx zD=true):
 DoesC P E g (AV.jM ρ zD) h (v0.ren ρ) h':=by
 refine⟨L.le,λK ι w vs c Z hP S J x hf=>?_⟩;let ι0:Nm:=λi=>if i<h0.nx∨OLD<=i then ι (ρ i)else none;have d:∀i,(i<h0.nx∨OLD<=i)->ι0 i=ι (ρ i):=λi hi=>aC hi;have m:∀i,¬(i<h0.nx∨OLD<=i)->ι0 i=none:=λi hi=>ah hi;have I:Az h0.nx ρ ι ι0:=λi p hi hp=>by rw[d i hi];exact hp
 have hUp:UC ρ ι0 ι:=λi p hi=>by
  by_cases x:i<h0.nx∨OLD<=i
  .rw[d i x]at hi;exact hi
  .rw[m i x]at hi;cases hi
 have SM:vJ K ι (λi o=>h.tr.get i=some o) w:=S.toM λ_ _ h _=>h;let X:Nat->Prop:=λi=>¬∃j r,h0.tr.get j=some r∧r.live∧i=ρ j;let M:=Ctx.less K ι (λi o=>h.tr.get i=some o) X w SM.lo SM.lt;have hsub:Sub M K:=uQ;have S0:Sat M ι0 h0 w:=by
  refine⟨λi o hi s=>?_,λi j o F p q e1 e2 l1 l2 hp y v=>?_,aj _,S.bs,S.old,S.os,S.tape,S.output,λhk i p hi=>?_⟩
  .have hlt:=L.names i o hi s
   obtain⟨p,ob,e1,e2,B,D,G⟩:=S.objs (ρ i) (o.ren ρ) (L.before i o hi s) (AO.fF.2 s);refine⟨p,ob,by rw[d i (.inl hlt)];exact e1,e2,⟨B,λ⟨j,F,q,hx,hm,hl',y,hqp⟩=>?_⟩,D,RO.iY I (pW L.Yz hi) G⟩;have:ρ i=j:=S.inj (ρ i) j _ F p q (L.before i o hi s) hm (AO.fF.2 s) hl' e1 y hqp.symm;exact hx ⟨i,o,hi,s,this.symm⟩
  .have h1:=L.names i o e1 l1
   have l:=L.names j F e2 l2;rw[d i (.inl h1)]at hp;rw[d j (.inl l)]at y;have:=S.inj (ρ i) (ρ j) _ _ p q (L.before i o e1 l1) (L.before j F e2 l2) (AO.fF.2 l1) (AO.fF.2 l2) hp y v;exact L.inj i j (by have:=L.le0;omega) (by have:=L.le0;omega) this
  .have hi':OLD<=i:=by
    unfold dR at hi;rcases aT i OLD with h1|h1
    .rw[ah (by omega)]at hi;cases hi
    .exact h1
   rw[d i (.inr hi'),L.old i hi'];exact S.kV hk i p hi
 have hP0:Of M P E:=⟨hP.P,hP.mem,hP.pk⟩;have H:dS ι0 zD vs.toList:=dS.iY I ha J;have hf0:Free ι0 h0.nx e.nx:=λi h1 l=>m i (λhx=>by have:=L.top;omega);have W:=C.2 M ι0 w vs c Z hP0 S0 H x hf0;rw[← L.df];refine W.frame hsub (Kept.refl _ _ _) ?_
 rintro d' g' w' z ⟨t,u,rfl,hg,N,hv,rfl⟩
 let inv:Nat->Option Nat:=λi=>(List.range e.nx).find? λj=>decide (h0.nx<=j∧ρ j=i);have hinv:∀j,h0.nx<=j->j<e.nx->inv (ρ j)=some j:=by
  intro j h1 l;show(List.range e.nx).find? _=some j;cases O:(List.range e.nx).find? (λk=>decide (h0.nx<=k∧ρ k=ρ j))with
  |none=>
   have:=List.find?_eq_none.1 O j (iO.2 l);simp[h1]at this
  |some k=>
   have U:=List.find?_some O;have h4:=iO.1 (List.mem_of_find?_eq_some O);simp at U;rw[L.inj k j h4 l U.2]
 let ι':Nm:=λi=>if h.nx<=i∧i<h'.nx then(match inv i with |some j=>t j|none=>none)else ι i;have f:∀i,¬(h.nx<=i∧i<h'.nx)->ι' i=ι i:=λi hi=>ah hi;have Q:∀j,h0.nx<=j->j<e.nx->ι' (ρ j)=t j:=λj h1 l=>by
  show(if h.nx<=ρ j∧ρ j<h'.nx then _ else _)=_;rw[aC (L.new j h1 l),hinv j h1 l]
 have R:Ext ι ι':=λi p hi=>by
  by_cases x:h.nx<=i∧i<h'.nx
  .rw[hf i x.1 x.2]at hi;cases hi
  .rw[f i x];exact hi
 have A:UC ρ t ι':=λi p hi=>by
  rcases aT i h0.nx with h1|h1
  .rw[hg.same i (.inl h1),d i (.inl h1)]at hi
   rw[f (ρ i) (by have:=L.low i h1;omega)];exact hi
  .rcases aT i e.nx with l|l
   .rw[Q i h1 l];exact hi
   .rw[hg.same i (.inr l)]at hi
    by_cases x:i<h0.nx∨OLD<=i
    .rw[d i x]at hi
     have U:OLD<=i:=by omega
     rw[L.old i U]at hi ⊢;rw[f i (by have:=L.top';omega)];exact hi
    .rw[m i x]at hi;cases hi
 have old:∀i o,h.tr.get i=some o->X i->o.live->∃p ob,ι i=some p∧¬K.fz p.1∧K.own p.1∧w'.heap[p.1]? =some ob∧RO K.P ι p.2 o ob∧¬M.own p.1:=by
  intro i o h1 l s;obtain⟨p,ob,e1,e2,B,D,G⟩:=S.objs i o h1 s;have hn:¬M.own p.1:=λhx=>hx.2 ⟨i,o,p,l,h1,s,e1,rfl⟩;exact⟨p,ob,e1,e2,B,(z.same p.1 (lt_of_heap D) e2 B hn).trans D,G,hn⟩
 have new:∀j r,e.tr.get j=some r->r.live->∃p ob,t j=some p∧ι' (ρ j)=some p∧¬K.fz p.1∧M.own p.1∧w'.heap[p.1]? =some ob∧RO K.P ι' p.2 (r.ren ρ) ob:=by
  intro j r h1 s;obtain⟨p,ob,e1,e2,B,D,G⟩:=N.objs j r h1 s;exact⟨p,ob,e1,A j p e1,e2,B,D,RO.ren A G⟩
 have hX:∀i,(∀j r,h0.tr.get j=some r->r.live->i≠ρ j)->X i:=λi hi ⟨j,r,h1,l,U⟩=>hi j r h1 l U;refine⟨ι',u,rfl,⟨L.le,λi hi=>f i (by omega)⟩,⟨λi o hi s=>?_,λi j o F p q e1 e2 l1 l2 hp y v=>?_,aS S.lo z.size,N.bs,N.old,N.os,N.tape,N.output,λhk=>(S.kV hk).trans R⟩,hv.ren A,by rw[L.df']⟩
 .rcases L.behind i o hi s with⟨j,r,h1,rfl,rfl⟩|⟨h1,l⟩
  .obtain⟨p,ob,_,e2,B,D,G,e6⟩:=new j r h1 (AO.fF.1 s)
   exact⟨p,ob,e2,B,D.1,G,e6⟩
  .obtain⟨p,ob,e1,e2,B,D,G,_⟩:=old i o h1 (hX i l) s
   exact⟨p,ob,R _ _ e1,e2,B,D,G.mono R⟩
 .rcases L.behind i o e1 l1 with⟨a,oa,T,rfl,rfl⟩|⟨T,g2⟩<;>rcases L.behind j F e2 l2 with⟨b,ob,k1,rfl,rfl⟩|⟨k1,k2⟩
  .obtain⟨p',_,V,m2,_⟩:=new a oa T (AO.fF.1 l1)
   obtain⟨q',_,m3,Y,_⟩:=new b ob k1 (AO.fF.1 l2);rw[hp]at m2;cases m2;rw[y]at Y;cases Y;rw[N.inj a b oa ob _ _ T k1 (AO.fF.1 l1) (AO.fF.1 l2) V m3 v]
  .obtain⟨p',_,V,m2,_,m5,_⟩:=new a oa T (AO.fF.1 l1)
   obtain⟨q',_,m3,_,_,_,_,Y⟩:=old j F k1 (hX j k2) l2;rw[hp]at m2;cases m2;rw[R _ _ m3]at y;cases y;exact aX (v▸m5) Y
  .obtain⟨p',_,V,m2,_,m5,_⟩:=new b ob k1 (AO.fF.1 l2)
   obtain⟨q',_,m3,_,_,_,_,Y⟩:=old i o T (hX i g2) l1;rw[y]at m2;cases m2;rw[R _ _ m3]at hp;cases hp;exact aX (v▸m5) Y
  .obtain⟨p',_,V,_⟩:=S.objs i o T l1
   obtain⟨q',_,m2,_⟩:=S.objs j F k1 l2;rw[R _ _ V]at hp;cases hp;rw[R _ _ m2]at y;cases y;exact S.inj i j o F _ _ T k1 l1 l2 V m2 v
end
section
open Go.Conc
open Go.Conc.Lib (WgLib WgLink)
variable{K:Ctx}{f f' f0:AF}{fid:FuncId}{gs:Array Goroutine}{h h' h2:AH}{s':OS}{v:AV}{ι:Nm}
noncomputable def Zj(ids:List Nat)(s:OS):OS:=match s with |⟨f,k,⟨tr,nx,df⟩⟩=>⟨f,k,⟨reach tr 100000 ids .e,nx,df⟩⟩
inductive Path(P:Program)(E:Env)(I:pz)(D:FuncId)(ty:TypeId)(out:List FuncId):OS->OS->Prop
 |run {s s':OS} (n m:Nat):E5 E (vW E n) out m s=s'->Path P E I D ty out s s'
 |spawn {s s':OS} (n m:Nat):JZ E I D ty n m out s=some s'->Path P E I D ty out s s'
 |gc {s s':OS} (ids:List Nat):Zj ids s=s'->Path P E I D ty out s s'
 |sem {s:OS} {f':AF} {h':AH}:DoesS P E s.f s.h f' h'->h'.nx<=OLD->Path P E I D ty out s ⟨f',s.k,h'⟩
 |trans {s s' s'':OS}:Path P E I D ty out s s'->Path P E I D ty out s' s''->Path P E I D ty out s s''
section
variable{P:Program}{E:Env}{I:pz}{W:World}{Y:Nat}{Z:List Frame}
theorem acU(ids:List Nat){s:OS}{w:World}{sl:Option (Nat×Nat)}{t:Trace}(H:V3 P E W Y Z s gs w sl t):V3 P E W Y Z (Zj ids s) gs w sl t:=by
 obtain⟨f,k,tr,nx,df⟩:=s;obtain⟨K,Shun,a,q,h1,c,d,g,h0,⟨ι,fr,b,k1,j,l,m,n,p,r⟩,u,v⟩:=H;refine⟨K,Shun,a,q,h1,c,d,g,h0,⟨ι,fr,b,k1,j,l,m,?_,p,r⟩,u,v⟩;exact(n.toM (M:=λi o=>tr.get i=some o) λ_ _ h _=>h).QH λi o e _=>uf (t:=tr) 100000 ids .e (λi o h=>by rw[Tr.fO]at h;cases h) i o e
theorem ZK{s:OS}(A:DoesS P E s.f s.h f' h')(n:h'.nx<=OLD){w:World}{sl:Option (Nat×Nat)}{t:Trace}(H:V3 P E W Y Z s gs w sl t):Reaches P gs w sl t (V3 P E W Y Z ⟨f',s.k,h'⟩):=by
 obtain⟨K,Shun,a,q,h1,o,p,i,h0,⟨ι,fr,b,rfl,j,R,r,S,_,_⟩,u,v⟩:=H;have l:=j.free n;refine Reaches.then (yV i (A.2.2 K ι w fr (b++Z) h1 S R l) w (kX.refl w) gs sl t q h0 u v) ?_
 rintro x w1 y t1 ⟨C,D,z,F,c,⟨ι',d,rfl,m,g2,B,rfl⟩,e,g⟩
 exact .here ⟨K,Shun,_,z,h1,o,p,i,c,⟨ι',d,b,rfl,j.grow m,B,r.mono (m.ext l),g2,rfl,λ_ _ h=>by cases h⟩,e,g⟩
theorem Ho(X:xZ P E I)(a:wM E I=true){L:WgLink}(H:WgLib P L){out:List FuncId}{s:OS}(p:Path P E I L.done L.tWg out s s'):∀{b:Array Goroutine} {w:World} {sl:Option (Nat×Nat)} {t:Trace},V3 P E W Y Z s b w sl t->Reaches P b w sl t (V3 P E W Y Z s'):=by
 induction p with
 |run n m e=>intro b w sl t h;rw[← e];exact ZP X.F X.FF n m out h
 |spawn n m e=>intro b w sl t h;exact U6 X a H e h
 |gc ids e=>intro b w sl t h;rw[← e];exact .here (acU ids h)
 |sem A f=>intro b w sl t h;exact ZK A f h
 |trans _ _ c d=>intro b w sl t h;exact Reaches.then (c h) λ_ _ _ _ h=>d h
structure Ends(W:World)(v:AV)(u:Value)(w:World):Prop where
 val:∃ι,RV ι v u
 size:W.heap.size<=w.heap.size
 old:∀b,b<W.heap.size->w.heap[b]? =W.heap[b]?
 os:w.os=W.os
 tape:w.tape=W.tape
 output:w.output=W.output
theorem VF(F:Fits P E)(FF:eU P E)(m:Of K P E){w:World}{fr:Frame}(S:Sat K ι h w)(R:RF ι f fr)(e:iZ E f h=some (.ret v h'))(d:f.ret=true)(g:f.ds=[]):
 ∃u es,stepG P true (G fr []) w=GStep.after es (doReturn P true fr [] none u w)∧RV ι v u∧∀e∈es,zM K w.heap.size e:=by
 obtain⟨x,tm,td,ds,ret⟩:=f;simp only at d g;subst d;subst g;have o:fr.mode= .returning:=by simpa using R.mode
 have p:fr.defers=[]:=R.ds;have e:OG E x tm td [] h=some (.ret v h'):=e;unfold OG at e;simp only at e;split at e
 .rename_i c n j ex q
  obtain⟨fn,k1,z,_,r,_⟩:=FF.code x.fn c n j ex q;have key:∀{l:List AV},J9 E j tm h=some l->∃u es,stepG P true (G fr []) w=GStep.after es (doReturn P true fr [] none u w)∧RV ι (ZR l) u∧∀e∈es,zM K w.heap.size e:=by
   intro l i;obtain⟨u,es,s,g2,t⟩:=J8 F m S R.tm r i;refine⟨u,seen P fr.fn es.toArray,?_,g2,λe y=>t e (by simpa using Conc.mem_seen y)⟩;rw[CP R];unfold unwind;rw[p];have:=s #[];simp only[gK]at this;have k:P.funcs[fr.fn]? =some fn:=by rw[R.fn];exact k1
   simp only[o,k,this]
  cases i:J9 E j tm h with
  |none=>rw[i]at e;cases e
  |some l=>
   rw[i]at e;have:=key i
   match l,e,this with
   |[],e,this=>cases e;exact this
   |[v],e,this=>cases e;exact this
   |a::b::l,e,this=>cases e;exact this
 .cases e
def now(P:Program)(w:World):Ctx:=⟨P,w,λb=>b<w.heap.size,w.heap.size,λb=>w.heap.size<=b,λ_ h=>h,True⟩
theorem EY(P:Program)(a:Ext dR ι)(w:World):Sat (now P w) ι F7 w:=
 ⟨(λi o e=>(by rw[show F7.tr.get i=none from Tr.fO i]at e;cases e)),(λi j o b p q e=>(by rw[show F7.tr.get i=none from Tr.fO i]at e;cases e)),aj _,λ_ h=>h,λ_ _=>rfl,rfl,rfl,rfl,λ_=>a⟩
def Known(E:Env)(W:World):Prop:=∀b o a,E.old b o=some a->b<W.heap.size∧∃v,W.cell? ⟨b,o,none⟩=some v∧RV dR a v
theorem the_run(X:xZ P E I)(r:wM E I=true){L:WgLink}(H:WgLib P L){out:List FuncId}{j:List AV}(Q:jJ E fid j false=some f0)(p:Path P E I L.done L.tWg out ⟨f0,[],F7⟩ s')(hk:s'.k=[])(hr:iZ E s'.f s'.h=some (.ret v h2))(w:s'.f.ret=true)(T:s'.f.ds=[])(hd:s'.f.x.deferred=false)(U:s'.h.df=0)
 (V:P.inits.idxOf? s'.f.x.fn=none)(W:World)(hW:Known E W)(args:Array Value)(s:dS dR j args.toList):
 ∃M g o w' z,runNT P (M+1) (solo (G (Frame.enter P fid args .normal) []) W) #[]=(.ended o w',z)∧runN P M (solo (G (Frame.enter P fid args .normal) []) W)= .next g∧step P g= .ended o w'∧Conc.Good P (Ends W v) g o w' z:=by
 have h0:V3 P E W W.heap.size [] ⟨f0,[],F7⟩ #[G (Frame.enter P fid args .normal) []] W none #[]:=
  ⟨now P W,λ_=>False,_,λ_=>0,⟨rfl,λb o a e=>⟨trivial,hW b o a e⟩,λ_=>trivial⟩,rfl,rfl,λ_ _ h=>h.elim,rfl,⟨dR,_,[],rfl,λi _ hi=>(by unfold dR;rw[ah (by omega)]),lV X.FF Q s rfl,rfl,EY P (λ_ _ h=>h) W,rfl,λ_ _ h=>by cases h⟩,leavers_one P _,mW.of (past_nil.mono (bK _))⟩
 obtain⟨N,gs1,w1,sl1,t1,m,K,Shun,a,q,hKP,l,y,hA,h01,⟨ι,fr,frs,rfl,hB,R,A,S,_,_⟩,hL,hP⟩:=Ho X r H p h0;rw[hk]at A;have A:frs=[]:=A;subst A;rw[U]at hP;have t:fr.kind= .normal:=by rw[R.kind,hd];rfl
 obtain⟨N2,g,o,w',z,e1,e2,e3,e4⟩:=beside_ends (P:=P) (Shun:=Shun) (B:=w1.heap.size) (D:=λ_ _ _=>False) (Post:=Ends W v) (sl:=sl1) (n:=0) (λ_ _ _ h=>h.elim) h01 hL hP.to (λw₂ hw=>by
  obtain⟨d,rfl⟩:=hw;have c:Sat K ι s'.h (w1.at d):=S.rely (kX.drawn w1 d);obtain⟨u,es,g1,g2,C⟩:=VF X.F X.FF hKP c R hr w T;have hE:Ends W v u (w1.at d):=⟨⟨ι,g2⟩,by have:=c.bs;rw[y]at this;exact qF λhlt=>jL _ (this _ hlt),λb J=>(c.old b (by rw[y];exact J)).trans (by rw[l]),by rw[c.os,l],by rw[c.tape,l],by rw[c.output,l]⟩;refine⟨rfl,u,es,?_,λe O=>⟨λx hx hs=>?_,(C e O).still.1,(C e O).still.2,F5 (.inl (C e O))⟩,hE⟩
  .rw[dD,g1]
   unfold doReturn;simp only[t,R.fn,V];simp[GStep.after]
  .obtain⟨b,J,hb1,_⟩:=zx (.inl (C e O)) hx
   exact aX hb1 λh=>h.elim (hA _ b hs J).1 (hA _ b hs J).2)
 rw[solo_eq_crowd];refine⟨N+N2,g,o,w',z,?_,?_,e3,e4⟩
 .rw[oV,runNT_add,m];exact e1
 .rw[runN_add,← runNT_fst P _ _ #[],m];exact e2
end
end
section
variable{P:Program}{b n n':Nat}{c:Array Value}{e el t:TypeId}{w:World}
theorem afU(ps d:Array TypeId)(a b:Addr)(n k c k':Nat):Extern.SlicesOverlaps.overlaps ps d #[.slice (some a) n k,.slice (some b) c k']=(do
 let some t := ps[0]? | stuck "slices.overlaps: no parameter types"
 let .slice elem ← underlying t | stuck "slices.overlaps: slice type expected"
 let size ← sizeOf elem
 if n=0∨c=0∨size=0 then Pure.pure (.bool false)
 else if a.block !=b.block&&(← frozen a)&&(← frozen b)then unsupported .addressObserved
 else do
  if a.block !=b.block then do
   noView a;noView b
   if ← mayBeOne a b then return .bool ((← choose (.extern "sameAddr.stringBytes" 2)) == 1)
  Pure.pure (.bool (a.block==b.block&&a.off<b.off+c*size&&b.off<a.off+n*size))):=rfl
theorem OB{ps E:Array TypeId}{ti:TypeInfo}(h1:ps[0]? =some t)(F:P.underlying t=some (.slice e))(G:P.info? e=some ti){b' o d k k':Nat}(A:b≠b'){f:Array Value}{g:TypeId}{i j:Nat}(B:w.heap[b]? =some (.cells c el (0,0)))(h0:c.size≠0)(l:w.heap[b']? =some (.cells f g (i,j)))(H:f.size≠0):
 ak P (Extern.SlicesOverlaps.overlaps ps E #[.slice (some ⟨b,o,none⟩) n k,.slice (some ⟨b',d,none⟩) n' k']) w (.bool false) w []:=by
 have f0:∀x,w.frozen? ⟨b,x,none⟩=false:=λx=>by rw[Ig B];simp
 have p:w.shape? b=some (el,c.size):=by unfold World.shape?;simp[B]
 have q:w.shape? b'=some (g,f.size):=by unfold World.shape?;simp[l]
 have C:∀(r:Nat) (x:TypeId×Nat) (a:Addr),a.block=r->w.shape? r=some x->ak P (noView a) w () w []:=λr x a I J=>by
  subst I;unfold noView viewAt;refine ak.aG (a:=none) ?_ (ak.pure _);refine ak.aG (ak.shape _) ?_;rw[J];exact ak.pure _
 have K:ak P (stringish ⟨b,o,none⟩) w false w []:=by
  unfold stringish;refine ak.aG (ak.frozen _) ?_;rw[f0];refine ak.aG (ak.shape _) ?_;rw[p];have:=ak.frozen (P:=P) (w:=w) ⟨b,c.size,none⟩;rw[f0]at this;exact this
 have s:∃z,ak P (stringish ⟨b',d,none⟩) w z w []:=by
  unfold stringish;cases h:w.frozen? ⟨b',d,none⟩with
  |true=>
   refine⟨true,ak.aG (ak.frozen _) ?_⟩;rw[h];exact ak.pure _
  |false=>
   refine⟨w.frozen? ⟨b',f.size,none⟩,ak.aG (ak.frozen _) ?_⟩;rw[h];refine ak.aG (ak.shape _) ?_;rw[q];exact ak.frozen _
 obtain⟨z,s⟩:=s;have L:ak P (mayBeOne ⟨b,o,none⟩ ⟨b',d,none⟩) w false w []:=by
  unfold mayBeOne;refine ak.aG K ?_;refine ak.aG s ?_;obtain⟨m,M⟩:∃m,c.size=m+1:=⟨c.size - 1,by omega⟩;refine ak.aG (w1:=w) (a:=false) ?_ ?_
  .refine ak.aG (ak.shape _) ?_
   rw[p,M];exact ak.pure _
  .obtain⟨D,u⟩:∃D,f.size=D+1:=⟨f.size - 1,by omega⟩
   refine ak.aG (w1:=w) (a:=false) ?_ ?_
   .refine ak.aG (ak.shape _) ?_
    rw[q,u];exact ak.pure _
   .cases z<;>exact ak.pure _
 rw[afU,h1];have v:(b !=b')=true:=by simpa using A
 have y:(b==b')=false:=by simpa using A
 refine ak.aG (ak.underlying F) ?_;refine ak.aG (ak.sizeOf G) ?_;by_cases h:n=0∨n'=0∨ti.size=0
 .rw[aC h];exact ak.pure _
 .rw[ah h]
  refine ak.aG (ak.frozen _) ?_;refine ak.aG (ak.frozen _) ?_;rw[f0];rw[ah (by simp)];rw[aC v];refine ak.aG (C b _ _ rfl p) ?_;refine ak.aG (C b' _ _ rfl q) ?_;refine ak.aG L ?_;rw[ah (by simp)];have e:(Value.bool (b==b'&&decide (o<d+n'*ti.size)&&decide (d<o+n*ti.size)))= .bool false:=by rw[y];rfl
  show ak P (Pure.pure (Value.bool (b==b'&&decide (o<d+n'*ti.size)&&decide (d<o+n*ti.size)))) w _ w [];rw[e];exact ak.pure _
end
section
variable{α:Type}{a v:AV}{b id n off:Nat}{e1 e2:List Event}{el:TypeId}{g:FuncId}{l:List AV}{p:Nat×Nat}{s:Sem α}{u:Value}{vs:Array Value}
section
variable{P:Program}{E:Env}{K:Ctx}{Z:Nm}{h Y:AH}{w:World}
theorem ak.det{a b:α}{w1 w2:World}(h1:ak P s w a w1 e1)(c:ak P s w b w2 e2):w1=w2:=by
 have:=(h1 #[]).symm.trans (c #[]);simp only[qV,Result.ok.injEq]at this;exact this.1.2
theorem Grow.none{ι':Nm}(g:Grow Z ι' n n):ι'=Z:=funext λi=>g.same i (by omega)
theorem Sat.cellOf(S:Sat K Z h w){vs:List AV}{g z:Bool}(o:h.obj id= .cells vs el g z)(hp:Z id=some p){k:IntKind}{n:Int}(r:vs[off]? =some (.int k n)):
 w.cell? ⟨p.1,off,none⟩=some (.int k n)∧¬K.fz p.1∧K.own p.1∧p.1<w.heap.size∧(z=false->w.frozen? ⟨p.1,off,none⟩=false):=by
 obtain⟨q,ob,l,hb1,b,j,m,c,lo,hi,rfl,⟨l1,l2,s,t⟩,h1,y,i⟩:=S.at o trivial;obtain rfl:p=q:=by rw[hp]at l;exact aN l
 obtain⟨v,d,e⟩:=t.get r;unfold RV at e;subst e;have f:off<l1.length:=(aA.1 d).1;have a:c[off]? =some (.int k n):=by rw[← bI,s,aW f];exact d
 refine⟨by rw[cell_of m];exact a,hb1,b,j,λu=>?_⟩;rw[Ig m];have x:=(aV.1 a).1;have:=(i u).1 off x;by_cases i:lo<=off
 .simp only[i,decide_true,Bool.true_and,rQ];omega
 .simp[i]
theorem Sat.Zm(S:Sat K Z h w){k:IntKind}{m:Int}(e:fE h id off [.int k m]=some Y)(hp:Z id=some p)(g:w.cell? ⟨p.1,off,none⟩=some u)(j:w.frozen? ⟨p.1,off,none⟩=false):
 Sat K Z Y (w.setCell ⟨p.1,off,none⟩ (.int k m))∧w.heap.size<=(w.setCell ⟨p.1,off,none⟩ (.int k m)).heap.size∧(∀b,b<w.heap.size->¬(¬K.fz b∧K.own b)->(w.setCell ⟨p.1,off,none⟩ (.int k m)).heap[b]? =w.heap[b]?)∧Y.nx=h.nx∧Y.df=h.df:=by
 have a:Y.nx=h.nx∧Y.df=h.df:=by
  unfold fE at e;split at e
  .obtain⟨_,rfl⟩:=fJ e
   exact⟨AH.sD,AH.wV⟩
  .cases e
 obtain⟨ι',w',es,h1,c,l,f,n⟩:=wF (P:=K.P) S hp e (vs:=[.int k m]) (cO (by unfold RV;rfl) dG) (by rw[a.1];intro i h1 c;omega);rw[a.1]at c;obtain rfl:=c.none;have d:ak K.P (storeCells ⟨p.1,off,none⟩ [.int k m] 0) w () (w.setCell ⟨p.1,off,none⟩ (.int k m)) ([⟨.cell ⟨p.1,off,none⟩,true,false⟩]++[]):=by
  unfold storeCells;rw[oM];exact ak.bind (ak.store (P:=K.P) g j (by simp) (by simp)) (ak.pure _)
 obtain rfl:=ak.det h1 d;exact⟨l,f.size,f.kept,a⟩
theorem xA{e:Array Value->Sem Value}(a:rP P g e){w':World}{es:List Event}(hr:ak P (e vs) w u w' es)(b:∀x∈es,x.sync=true∧∀g,x.loc≠.mark (.extern g))(c:Y.nx=h.nx)(d:Sat K Z Y w')(f:RV Z v u)
 (i:iG K w w' es.toArray)(j:deafBehind h.df es.toArray=Y.df):EOk P K Z h w (callFunc g vs) v Y:=λ_=>
 ⟨Z,w',.value u,_,o9 a hr,by rw[c];exact Grow.refl _ _,d,f,λfn=>by rw[wH fn b];exact⟨i,j⟩⟩
theorem JL(h:dS Z (a::l) vs.toList):∃v r,vs.toList=v::r∧vs[0]? =some v∧RV Z a v∧dS Z l r:=by
 obtain⟨v,r,h1,b,c⟩:=bf h;exact⟨v,r,h1,by rw[← bI,h1];rfl,b,c⟩
theorem Sat.df(S:Sat K Z h w)(d:Nat):Sat K Z { h with df:=d } w:=⟨S.objs,S.inj,S.lo,S.bs,S.old,S.os,S.tape,S.output,S.kV⟩
theorem xg{w':World}{es:List Event}(a:w.heap.size<=w'.heap.size)(c:∀b,b<w.heap.size->¬(¬K.fz b∧K.own b)->w'.heap[b]? =w.heap[b]?)(d:∀e∈es,EvG K w'.heap.size e)(f:w'.os=w.os)(g:w'.tape=w.tape)(i:w'.output=w.output):iG K w w' es.toArray:=
 ⟨a,c,λe h=>d e (by simpa using h),f,g,i⟩
theorem FZ{wr:Bool}(h1:¬K.fz b)(a:K.own b)(c:b<n):EvG K n ⟨.cell ⟨b,off,none⟩,wr,true⟩:= .inl ⟨.inl ⟨h1,a⟩,c⟩
theorem agr{e:Array Value->Sem Value}(c:rP P g e)(S:Sat K Z h w)(d:fV P K Z h w (e vs) v Y):EOk P K Z h w (callFunc g vs) v Y:=
 VOk.ext S λf=>by
  obtain⟨ι',w',i,es,h1,j,k,l,a,m⟩:=d f;refine⟨ι',w',.value i,_,o9 c h1,j,k,l,⟨a.size,a.kept,λe b=>?_⟩,m⟩;rcases ay.1 b with rfl|b
  .unfold zM TG;trivial
  .exact a.evs e b
theorem aeX(FX:X8 P E):∀g n F x,E.ft.get g=some ⟨none,n,F,x⟩->∀(K:Ctx) Z h w args (vs:Array Value) v Y,Of K P E->Sat K Z h w->dS Z args vs.toList->PN x args h=some (.val v Y)->EOk P K Z h w (callFunc g vs) v Y:=by
 intro g n F x H K Z h w args vs v Y hP S R e;unfold PN at e;split at e
 .
  cases e;obtain⟨ef,l,I⟩:=FX.wW g n F H;obtain⟨u,rfl,C⟩:=args1 R;exact xA l (es:=[]) (by rw[I];exact ak.pure _) (by simp) rfl S C (iG.refl w) rfl
 .cases e
  obtain⟨ef,l,I⟩:=FX.Ak g n F H;exact xA l (es:=[]) (by rw[I];exact ak.pure _) (by simp) rfl S (by unfold RV;rfl) (iG.refl w) rfl
 .
  rename_i id off;obtain⟨m,l,M⟩:=FX.race g n F H;split at e
  .rename_i V el cg cz L
   cases e;obtain⟨u,rfl,C⟩:=args1 R;obtain⟨p,hp,rfl⟩:=jF C;obtain⟨q,ob,T,hb1,hown,hlt,_⟩:=S.at L trivial;obtain rfl:p=q:=by rw[hp]at T;exact aN T
   have I:EvG K w.heap.size (sZ (m ⟨p.1,off,none⟩)):=by
    rcases M with rfl|rfl|rfl|rfl|rfl<;>exact .inl ⟨hb1,hown,hlt⟩
   have hnd:(sZ (m ⟨p.1,off,none⟩)).loc≠.mark .disable∧(sZ (m ⟨p.1,off,none⟩)).loc≠.mark .enable:=by
    rcases M with rfl|rfl|rfl|rfl|rfl<;>simp[sZ]
   refine xA l (Ei m ⟨p.1,off,none⟩ rfl) (λx l=>?_) rfl S (by unfold RV;exact⟨#[],rfl,dG⟩) (xg (aj _) (λ_ _ _=>rfl) (λe s=>?_) rfl rfl rfl) (qh (λe s=>?_) _)
   .simp at l;subst l
    refine⟨rfl,λf=>?_⟩;rcases M with rfl|rfl|rfl|rfl|rfl<;>simp[sZ]
   .simp at s;subst s;exact I
   .simp at s;subst s;exact hnd
  .cases e
 .
  cases e;have l:=FX.YR g n F H;refine xA l (y7 .disable vs) (λx l=>?_) rfl (S.df _) (by unfold RV;exact⟨#[],rfl,dG⟩) (xg (aj _) (λ_ _ _=>rfl) (λe s=>?_) rfl rfl rfl) rfl
  .simp at l;subst l;exact⟨rfl,by simp[sZ]⟩
  .simp at s;subst s;exact .inr (.inl rfl)
 .
  cases hz:Nat.beq h.df 0 with
  |true=>rw[hz]at e;cases e
  |false=>
   rw[hz]at e;cases e;have l:=FX.en g n F H;refine xA l (y7 .enable vs) (λx l=>?_) rfl (S.df _) (by unfold RV;exact⟨#[],rfl,dG⟩) (xg (aj _) (λ_ _ _=>rfl) (λe s=>?_) rfl rfl rfl) rfl
   .simp at l;subst l;exact⟨rfl,by simp[sZ]⟩
   .simp at s;subst s;exact .inr (.inr rfl)
 .
  rename_i k id off k' d;have l:=FX.I7 g n F k H;split at e
  .rename_i V el cg cz L
   split at e
   .rename_i J m M
    cases B:(zq k k'&&zq k J)with
    |false=>rw[B]at e;cases e
    |true=>
     rw[B]at e;rw[aF]at B;obtain rfl:=nJ B.1;obtain rfl:=nJ B.2;simp only[bG,aP]at e;obtain⟨h1,G,e⟩:=e;cases e;obtain⟨u,r,y,_,C,hr⟩:=JL R;obtain⟨p,hp,rfl⟩:=jF C;obtain⟨u2,r2,z,A,D⟩:=bf hr;rw[bU D]at z;unfold RV at A;subst A;have y:vs=#[.pointer (some ⟨p.1,off,none⟩),.int k d]:=by apply dH.1;rw[y,z]
     subst y;have hz:cz=false:=by
      unfold fE at G;rw[L]at G;cases cz with
      |false=>rfl
      |true=>cases G
     obtain⟨c1,c2,c3,c4,W⟩:=S.cellOf L hp M;obtain⟨N,s2,s3,s4,s5⟩:=S.Zm G hp c1 (W hz);refine xA l (ab7 c1 (W hz)) (λx l=>?_) s4 N (by unfold RV;rfl) (xg s2 s3 (λe s=>?_) (N.os.trans S.os.symm) (N.tape.trans S.tape.symm) (N.output.trans S.output.symm)) ?_
     .simp at l;rcases l with rfl|rfl<;>exact⟨rfl,by simp[vY,Ed]⟩
     .simp at s;rcases s with rfl|rfl<;>exact FZ c2 c3 (by omega)
     .rw[s5];exact qh (λe s=>by simp at s;rcases s with rfl|rfl<;>simp[vY,Ed]) _
   .cases e
  .cases e
 .
  rename_i k id off;have l:=FX.EG g n F k H;split at e
  .rename_i V el cg cz L
   split at e
   .rename_i J m M
    cases B:zq k J with
    |false=>rw[B]at e;cases e
    |true=>
     rw[B]at e;obtain rfl:=nJ B;cases e;obtain⟨u,rfl,C⟩:=args1 R;obtain⟨p,hp,rfl⟩:=jF C;obtain⟨c1,c2,c3,c4,W⟩:=S.cellOf L hp M;refine xA l (CY c1) (λx l=>?_) rfl S (by unfold RV;rfl) (xg (aj _) (λ_ _ _=>rfl) (λe s=>?_) rfl rfl rfl) (qh (λe s=>?_) _)
     .simp at l;subst l;exact⟨rfl,by simp[vY]⟩
     .simp at s;subst s;exact FZ c2 c3 c4
     .simp at s;subst s;simp[vY]
   .cases e
  .cases e
 .
  rename_i k id off k' o k1 b;have l:=FX.I5 g n F k H;split at e
  .rename_i V el cg L
   split at e
   .rename_i J m M
    cases B:(zq k k'&&zq k J&&zq k k1)with
    |false=>rw[B]at e;cases e
    |true=>
     rw[B]at e;rw[aF,aF]at B;obtain rfl:=nJ B.1.1;obtain rfl:=nJ B.1.2;obtain rfl:=nJ B.2;obtain⟨u,r,y,_,C,hr⟩:=JL R;obtain⟨p,hp,rfl⟩:=jF C;obtain⟨u2,r2,z,A,D⟩:=bf hr;obtain⟨u3,r3,U,hu3,hr3⟩:=bf D;rw[bU hr3]at U;unfold RV at A hu3;subst A;subst hu3;have y:vs=#[.pointer (some ⟨p.1,off,none⟩),.int k o,.int k b]:=by apply dH.1;rw[y,z,U]
     subst y;obtain⟨c1,c2,c3,c4,W⟩:=S.cellOf L hp M;simp only[bG]at e;cases O:(m==o)with
     |true=>
      rw[O]at e;simp only[bG,aP]at e;obtain⟨h1,G,e⟩:=e;cases e;obtain rfl:=eq_of_beq O;obtain⟨N,s2,s3,s4,s5⟩:=S.Zm G hp c1 (W rfl);refine xA l (IE c1 (W rfl)) (λx l=>?_) s4 N (by unfold RV;rfl) (xg s2 s3 (λe s=>?_) (N.os.trans S.os.symm) (N.tape.trans S.tape.symm) (N.output.trans S.output.symm)) ?_
      .simp at l;rcases l with rfl|rfl<;>exact⟨rfl,by simp[vY,Ed]⟩
      .simp at s;rcases s with rfl|rfl<;>exact FZ c2 c3 (by omega)
      .rw[s5];exact qh (λe s=>by simp at s;rcases s with rfl|rfl<;>simp[vY,Ed]) _
     |false=>
      rw[O]at e;cases e;have X:m≠o:=by simpa using O
      refine xA l (EZ c1 (W rfl) X) (λx l=>?_) rfl S (by unfold RV;rfl) (xg (aj _) (λ_ _ _=>rfl) (λe s=>?_) rfl rfl rfl) (qh (λe s=>?_) _)
      .simp at l;subst l;exact⟨rfl,by simp[vY]⟩
      .simp at s;subst s;exact FZ c2 c3 c4
      .simp at s;subst s;simp[vY]
   .cases e
  .cases e
 .
  rename_i a b;cases e;have l:=FX.Ez g n F H;obtain⟨u,r,y,_,C,hr⟩:=JL R;obtain⟨u2,r2,z,A,D⟩:=bf hr;rw[bU D]at z;obtain rfl:=nG C;obtain rfl:=nG A;have y:vs=#[.string ⟨a.toArray⟩,.string ⟨b.toArray⟩]:=by apply dH.1;rw[y,z]
  subst y;refine xA l (es:=[]) ?_ (by simp) rfl S (by unfold int64 RV;rfl) (iG.refl w) rfl;show ak P (do Pure.pure (goInt (Extern.BytealgCompare.cmp (← Extern.Bytes.bytesOf (.string ⟨a.toArray⟩)) (← Extern.Bytes.bytesOf (.string ⟨b.toArray⟩))))) w _ w [];exact ak.aG (ak.pure _) (ak.aG (ak.pure _) (ak.pure _))
 .
  rename_i t id;have l:=FX.zl g n F H;split at e
  .rename_i es ck L
   cases e;obtain⟨u,rfl,C⟩:=args1 R;unfold RV at C;obtain⟨x,rfl,hx1⟩:=C;obtain⟨p,hp,rfl⟩:=sH hx1;obtain⟨q,ob,T,b1,b2,b3,hb,es',rfl,hr⟩:=S.at L trivial;obtain rfl:p=q:=by rw[hp]at T;exact aN T
   obtain⟨g1,g2⟩:=ak.oz (P:=P) (K:=K) hb (by simp) rfl b1 b2;have hl:fV P K Z h w (Extern.MapsClone.clone #[.iface t (.map (some p.1))]) (.iface t (.map h.nx)) (h.new (.map es ck)):=by
    refine fV.lC g1 g2 ?_;refine xU S (cap:=0) (o:= .map es ck) (ob:= .map es' ck) ⟨es',rfl,hr⟩ (λb=> .iface t (.map (some b))) (λb w=>ak.pure _) (λι' b hb _=>?_);unfold RV;refine⟨_,rfl,?_⟩;unfold RV;exact⟨_,hb,rfl⟩
   exact agr l S hl
  .cases e
 .
  rename_i i o1 n1 c1 j o2 n2 c2;obtain⟨ps,qs,t,el,ti,l,hps,C,hti⟩:=FX.overlaps g n F H;split at e
  .rename_i a0 vs0 el0 a1 cs1 el1 g1 z1 hoi hoj
   cases Q:Nat.beq i j with
   |true=>rw[Q]at e;cases e
   |false=>
   rw[Q]at e;cases e;obtain⟨u,r,y,_,hu1,hr⟩:=JL R;obtain⟨u2,r2,z,A,D⟩:=bf hr;rw[bU D]at z;obtain⟨p,hp,k1,rfl,_⟩:=kE hu1;obtain⟨q,T,k2,rfl,_⟩:=kE A;have y:vs=#[.slice (some ⟨p.1,o1,none⟩) n1 k1,.slice (some ⟨q.1,o2,none⟩) n2 k2]:=by apply dH.1;rw[y,z]
   subst y;obtain⟨p',ob,hp',_,_,_,hbp,c,lo,hi0,rfl,⟨l1,l2,B,hv⟩,g1,g2,g3⟩:=S.at hoi trivial;obtain rfl:p=p':=by rw[hp]at hp';exact aN hp'
   obtain⟨q',ob2,hq',_,_,_,hbq2,c',lo2,hi2,rfl,⟨l3,l4,hc2,hv2⟩,_⟩:=S.at hoj trivial;obtain rfl:q=q':=by rw[T]at hq';exact aN hq'
   obtain⟨rfl,rfl⟩:=(g3 rfl).2 rfl;have hcz:c.size≠0:=by rw[g1 rfl];simp
   have hcz2:c'.size≠0:=by
    obtain⟨x1,r1,e1,_,_⟩:=bf hv2;rw[← Array.length_toList,hc2,e1];simp
   have X:p.1≠q.1:=λh=>by
    have:=S.inj i j _ _ p q (AH.uO hoi trivial) (AH.uO hoj trivial) trivial trivial hp T h;subst this;rw[Nat.beq_refl]at Q;cases Q
   exact xA l (es:=[]) (OB hps C hti X hbp hcz hbq2 hcz2) (by simp) rfl S (by unfold RV;rfl) (iG.refl w) rfl
  .cases e
 .cases e
 .cases e
end
end
section
variable{ag:Bool}{l:List AV}{t:TypeId}{ι:Nm}
def L9(a:Bool)(x:Array Value):Value:=if a then .agg x else x.getD 0 undef
structure sS(P:Program)(D:Nat)(t:TypeId)(ks:List Nat)(ag:Bool):Prop where
 agg:∀w,ak P (isAgg t) w ag w []
 size:∀w,ak P (sizeOf t) w ks.length w []
 sc:ag=false->ks.length=1
 pos:0<ks.length
 ck:∀(n:Nat) (b:Bool) (w:World) (x:Array Value) (l:List AV) (ι:Nm),D<=n->dS ι l x.toList->uT ks l=true->ak P (Instr.checkKey b n t (L9 ag x)) w () w []
 eq:∀(n:Nat) (w:World) (x y:Array Value) (l m:List AV) (ι:Nm) (r:Bool),D<=n->dS ι l x.toList->dS ι m y.toList->uT ks l=true->D6 l m=some r->ak P (Op.equalIn n t (L9 ag x) (L9 ag y)) w r w []
theorem sS.mono{P:Program}{D D':Nat}{ks:List Nat}(h:sS P D t ks ag)(c:D<=D'):sS P D' t ks ag:=
 ⟨h.agg,h.size,h.sc,h.pos,λn b w x l ι a=>h.ck n b w x l ι (by omega),λn w x y l m ι r a=>h.eq n w x y l m ι r (by omega)⟩
theorem H7:∀{ks:List Nat} {l:List AV},uT ks l=true->l.length=ks.length
 |[],[],_=>rfl
 |[],_::_,h=>by cases h
 |_::_,[],h=>by cases h
 |k::ks,a::l,h=>by
  unfold uT at h;rw[aF]at h;simp[H7 h.2]
theorem H8:∀{ks ks':List Nat} {l:List AV},uT (ks++ks') l=true->∃l1 l2,l=l1++l2∧uT ks l1=true∧uT ks' l2=true
 |[],ks',l,h=>⟨[],l,rfl,rfl,h⟩
 |k::ks,ks',[],h=>by cases h
 |k::ks,ks',a::l,h=>by
  have h:(_&&uT (ks++ks') l)=true:=h;rw[aF]at h;obtain⟨l1,l2,rfl,h1,b⟩:=H8 h.2;exact⟨a::l1,l2,rfl,by unfold uT;rw[aF];exact⟨h.1,h1⟩,b⟩
theorem JG:∀{l1 l2 m:List AV} {r:Bool},D6 (l1++l2) m=some r->∃c m2 r1 r2,m=c++m2∧l1.length=c.length∧D6 l1 c=some r1∧D6 l2 m2=some r2∧r=(r1&&r2)
 |[],l2,m,r,h=>⟨[],m,true,r,rfl,rfl,rfl,h,by simp⟩
 |a::l1,l2,[],r,h=>by cases h
 |a::l1,l2,b::m,r,h=>by
  have h:(match UQ a b with |none=>none|some false=>(match D6 (l1++l2) m with |none=>none|some _=>some false)|some true=>D6 (l1++l2) m)=some r:=h;cases d:UQ a b with
  |none=>rw[d]at h;cases h
  |some q=>
   rw[d]at h;cases q with
   |true=>
    obtain⟨c,m2,r1,r2,rfl,e,h1,f,rfl⟩:=JG (show D6 (l1++l2) m=some r from h);exact⟨b::c,m2,r1,r2,rfl,by simp[e],by unfold D6;rw[d];exact h1,f,rfl⟩
   |false=>
    simp only at h;cases g:D6 (l1++l2) m with
    |none=>rw[g]at h;cases h
    |some q=>
     rw[g]at h;cases h;obtain⟨c,m2,r1,r2,rfl,e,h1,f,_⟩:=JG g;exact⟨b::c,m2,false,r2,rfl,by simp[e],by unfold D6;rw[d];simp only[h1],f,rfl⟩
theorem ac4{m:List AV}{r:Bool}(h:D6 l m=some r):l.length=m.length:=by
 obtain⟨b,m2,r1,r2,rfl,h1,c,a,_⟩:=JG (l1:=l) (l2:=[]) (by simpa using h);cases m2 with
 |nil=>simpa using h1
 |cons _ _=>cases a
theorem yF{l1 l2:List AV}{vs:List Value}(h:dS ι (l1++l2) vs):dS ι l1 (vs.take l1.length)∧dS ι l2 (vs.drop l1.length):=by
 induction l1 generalizing vs with
 |nil=>exact⟨by simpa using dG,by simpa using h⟩
 |cons a l1 b=>
  obtain⟨v,r,rfl,h1,c⟩:=bf (show dS ι (a::(l1++l2)) vs from h);obtain⟨d,e⟩:=b c;exact⟨by simpa using cO h1 d,by simpa using e⟩
section
variable{P:Program}{D:Nat}{w:World}
theorem OQ{ks:List Nat}(h:sS P D t ks ag){cs:Array Value}{off:Nat}(c:off+ks.length<=cs.size):ak P (part t cs off) w (L9 ag (cs.extract off (off+ks.length))) w []:=by
 unfold part;refine ak.aG (h.agg w) ?_;cases ag with
 |true=>exact ak.aG (h.size w) (ak.pure _)
 |false=>
  have h1:=h.sc rfl;have a:off<cs.size:=by omega
  have b:cs[off]? =some cs[off]:=dI a;have:L9 false (cs.extract off (off+ks.length))=cs[off]:=by
   unfold L9;rw[h1];simp only[gJ,if_false,bg,Array.getElem?_extract];rw[aC (by omega),Nat.add_zero,b];rfl
  rw[this];simp only[b];exact ak.pure _
inductive UU{α:Type}(P:Program)(D:Nat)(ty:α->TypeId)(off:α->Nat):Nat->List α->List Nat->Prop
 |nil {o:Nat}:UU P D ty off o [] []
 |cons {o:Nat} {a:α} {as:List α} {ks ks':List Nat} {ag:Bool}:off a=o->sS P D (ty a) ks ag->UU P D ty off (o+ks.length) as ks'->UU P D ty off o (a::as) (ks++ks')
theorem FY(x:Array Value)(o n:Nat):(x.extract o (o+n)).toList=(x.toList.drop o).take n:=by
 rw[Array.toList_extract];simp[List.extract_eq_take_drop]
theorem SN{α:Type}{ty:α->TypeId}{off:α->Nat}{d:Nat}(E:D<=d){x y:Array Value}{B:α->Option Bool×Unit->Sem (ForInStep (Option Bool×Unit))}{ι:Nm}:∀{o:Nat} {as:List α} {ks:List Nat},UU P D ty off o as ks->(∀a∈as,∀s,B a s=(do
 let u ← part (ty a) x (off a);let v ← part (ty a) y (off a);let r ← Op.equalIn d (ty a) u v
 if(!r)=true then pure (ForInStep.done (some false,()))else pure (ForInStep.yield (none,()))))->
 ∀{l m:List AV} {r:Bool},dS ι l (x.toList.drop o)->dS ι m (y.toList.drop o)->uT ks l=true->D6 l m=some r->ak P (forIn as ((none,()):Option Bool×Unit) B) w (if r then(none,())else(some false,())) w []:=by
 intro o as ks H;induction H with
 |nil=>
  intro _ l m r t z n j;have:l=[]:=by cases l with |nil=>rfl|cons _ _=>cases n
  subst this;cases m with
  |nil=>cases j;rw[List.forIn_nil];exact ak.pure _
  |cons _ _=>cases j
 |@cons o a as ks ks' N F k _ G=>
  intro A l m r t z n j;obtain⟨l1,l2,rfl,h,p⟩:=H8 n;obtain⟨I,m2,r1,r2,rfl,J,he1,he2,rfl⟩:=JG j;obtain⟨c,f⟩:=yF t;obtain⟨b,e⟩:=yF z;have q:=H7 h;have i:=c.length;have g:=b.length;rw[← J]at b e g;rw[q]at c f i b e g;simp only[eG,iF,Array.length_toList]at i g;have C:=k.pos;rw[← FY]at c b;rw[List.drop_drop]at f e;rw[List.forIn_cons,A a (by simp)];subst F;have K:=k.eq d w _ _ l1 I ι r1 E c b h he1;have L:ak P (do
   let u ← part (ty a) x (off a);let v ← part (ty a) y (off a);let r ← Op.equalIn d (ty a) u v
   if(!r)=true then pure (ForInStep.done (some false,()))else pure (ForInStep.yield (none,()))) w (if r1 then ForInStep.yield (none,())else ForInStep.done (some false,())) w []:=by
   refine ak.aG (OQ k (by omega)) (ak.aG (OQ k (by omega)) (ak.aG K ?_));cases r1
   .exact ak.pure _
   .exact ak.pure _
  refine ak.aG L ?_;cases r1 with
  |false=>exact ak.pure _
  |true=>
   simp only[Bool.true_and];exact G (λa M=>A a (by simp[M])) f e p he2
theorem SS{α:Type}{ty:α->TypeId}{off:α->Nat}{d:Nat}(t:D<=d){b:Bool}{x:Array Value}{B:α->PUnit->Sem (ForInStep PUnit)}{ι:Nm}:∀{o:Nat} {as:List α} {ks:List Nat},UU P D ty off o as ks->(∀a∈as,∀s,∀n k,ak P (part (ty a) x (off a)) w n w []->ak P (Instr.checkKey b d (ty a) n) w () w []->∀z,ak P (sizeOf (ty a)) w z w []->k=z->ak P (B a s) w (.yield ⟨⟩) w [])->
 ∀{l:List AV},dS ι l (x.toList.drop o)->uT ks l=true->ak P (forIn as PUnit.unit B) w PUnit.unit w []:=by
 intro o as ks H;induction H with
 |nil=>
  intro _ l m p;rw[List.forIn_nil];exact ak.pure _
 |@cons o a as ks ks' k u h _ v=>
  intro q l m p;obtain⟨l1,l2,rfl,f,i⟩:=H8 p;obtain⟨c,e⟩:=yF m;have j:=H7 f;have g:=c.length;rw[j]at c e g;simp only[eG,iF,Array.length_toList]at g;have r:=h.pos;rw[← FY]at c;rw[List.drop_drop]at e;rw[List.forIn_cons];subst u;refine ak.aG (q a (by simp) _ _ ks.length (OQ h (by omega)) (h.ck d b w _ l1 ι t c f) _ (h.size w) rfl) ?_;exact v (λa y=>q a (by simp[y])) e i
end
end
section
variable{a:AV}{ag:Bool}{e t:TypeId}{l:List AV}{ι:Nm}
section
variable{P:Program}{D:Nat}{w:World}
theorem JK{d:TypeDesc}(h:P.underlying t=some d)(a:ag=match d with | .struct _| .array _ _=>true|_=>false):ak P (isAgg t) w ag w []:=by
 unfold isAgg;refine ak.aG (ak.underlying h) ?_;subst a;cases d<;>exact ak.pure _
theorem FT{k:Nat}{x:Array Value}(c:dS ι l x.toList)(b:uT [k] l=true):∃a v,l=[a]∧x=#[v]∧RV ι a v∧(match a with | .bool _=>Nat.beq k 0| .int _ _=>Nat.beq k 1| .str _=>Nat.beq k 2|_=>false)=true:=by
 cases l with
 |nil=>cases b
 |cons a l=>
  unfold uT at b;rw[aF]at b;cases l with
  |cons _ _=>have:=b.2;cases this
  |nil=>
   obtain⟨v,rfl,d⟩:=args1 c;exact⟨a,v,rfl,rfl,d,b.1⟩
theorem XE{m:List AV}{r:Bool}(h:D6 [a] m=some r):∃b,m=[b]∧UQ a b=some r:=by
 have c:=ac4 h;cases m with
 |nil=>simp at c
 |cons b m=>
  cases m with
  |cons _ _=>simp at c
  |nil=>
   refine⟨b,rfl,?_⟩;unfold D6 at h;cases d:UQ a b with
   |none=>rw[d]at h;cases h
   |some q=>rw[d]at h;cases q<;>exact h
theorem aaO{k:IntKind}{i:TypeInfo}(h:P.underlying t=some (.int k))(hi:P.info? t=some i)(s:i.size=1):sS P 1 t [1] false:=by
 refine⟨λw=>JK h rfl,λw=>by have:=ak.sizeOf (w:=w) hi;rw[s]at this;exact this,λ_=>rfl,by decide,λn b w x l ι z f g=>?_,λn w x y l m ι r z f A g o=>?_⟩
 .obtain⟨a,v,rfl,rfl,e,c⟩:=FT f g
  obtain⟨n,rfl⟩:∃j,n=j+1:=⟨n - 1,by omega⟩;unfold Instr.checkKey;refine ak.aG (ak.underlying h) ?_;cases a<;>first|(cases c;done)|skip
  unfold RV at e;subst e;exact ak.pure _
 .obtain⟨a,v,rfl,rfl,e,c⟩:=FT f g
  obtain⟨b,rfl,he1⟩:=XE o;clear o;obtain⟨u,rfl,p⟩:=args1 A;obtain⟨n,rfl⟩:∃j,n=j+1:=⟨n - 1,by omega⟩;unfold Op.equalIn;refine ak.aG (ak.underlying h) ?_;cases a<;>first|(cases c;done)|skip
  rename_i k1 a;cases b<;>first|(cases he1;done)|skip
  rename_i q b;unfold RV at e p;subst e;subst p;have he1:cond (zq k1 q) (some (a==b)) none=some r:=he1;cases d:zq k1 q with
  |false=>rw[d]at he1;cases he1
  |true=>
   rw[d]at he1;cases he1;obtain rfl:=nJ d;show ak P (if k1=k1 then pure (a==b)else _) w _ w _;rw[aC rfl];exact ak.pure _
theorem aaN{i:TypeInfo}(h:P.underlying t=some .string)(hi:P.info? t=some i)(o:i.size=1):sS P 1 t [2] false:=by
 refine⟨λw=>JK h rfl,λw=>by have:=ak.sizeOf (w:=w) hi;rw[o]at this;exact this,λ_=>rfl,by decide,λn b w x l ι p e f=>?_,λn w x y l m ι r p e q f j=>?_⟩
 .obtain⟨a,v,rfl,rfl,d,c⟩:=FT e f
  obtain⟨n,rfl⟩:∃g,n=g+1:=⟨n - 1,by omega⟩;unfold Instr.checkKey;refine ak.aG (ak.underlying h) ?_;cases a<;>first|(cases c;done)|skip
  unfold RV at d;subst d;exact ak.pure _
 .obtain⟨a,v,rfl,rfl,d,c⟩:=FT e f
  obtain⟨b,rfl,he1⟩:=XE j;clear j;obtain⟨u,rfl,k⟩:=args1 q;obtain⟨n,rfl⟩:∃g,n=g+1:=⟨n - 1,by omega⟩;unfold Op.equalIn;refine ak.aG (ak.underlying h) ?_;cases a<;>first|(cases c;done)|skip
  rename_i a;cases b<;>first|(cases he1;done)|skip
  rename_i b;unfold RV at d k;subst d;subst k;unfold UQ at he1;cases he1;show ak P (pure ((⟨a.toArray⟩:ByteArray)==⟨b.toArray⟩)) w _ w _;rw[bytes_beq];exact ak.pure _
theorem BI {t : TypeId} {fs : Array Field} {i : TypeInfo} {ks : List Nat} (h : P.underlying t = some (.struct fs)) (hi : P.info? t = some i) (hs : i.size = ks.length) (hst : P.stoodInHeld t = false) (hn : ∀ f ∈ fs.toList, f.name ≠ "_")
 (hI : UU P D (fun f : Field => f.type) (fun f : Field => f.offset) 0 fs.toList ks) (hpos : 0 < ks.length) : sS P (D + 1) t ks true := by
 refine ⟨fun w => JK h rfl, fun w => by have := ak.sizeOf (w := w) hi; rw [hs] at this; exact this, fun h => (by cases h), hpos, fun n b w x l ι hd hx hk => ?_, fun n w x y l m ι r hd hx hy hk he => ?_⟩
 · obtain ⟨n, rfl⟩ : ∃ n', n = n' + 1 := ⟨n - 1, by omega⟩
   unfold Instr.checkKey
   refine ak.aG (ak.underlying h) ?_
   simp only [L9, if_true]
   rw [← Array.forIn_toList]
   refine ak.aG (SS (d := n) (b := b) (x := x) (by omega) hI (fun f hf s v ag hp hc _ _ _ => ?_) (by simpa using hx) hk) (ak.pure _)
   simp only [hn f hf, ne_eq, not_false_eq_true, if_true]
   exact ak.aG hp (ak.aG hc (ak.pure _))
 · obtain ⟨n, rfl⟩ : ∃ n', n = n' + 1 := ⟨n - 1, by omega⟩
   unfold Op.equalIn
   refine ak.aG (ak.underlying h) ?_
   simp only [L9, if_true]
   refine ak.aG ak.program ?_
   simp only [hst, Bool.false_eq_true, if_false]
   rw [← Array.forIn_toList]
   refine ak.aG (SN (d := n) (x := x) (y := y) (by omega) hI (fun f hf s => ?_) (by simpa using hx) (by simpa using hy) hk he) ?_
   · simp only [hn f hf, ne_eq, not_false_eq_true, if_true]
   · cases r <;> exact ak.pure _
theorem NJ{e:TypeId}{ks:List Nat}{b:Bool}(a:sS P D e ks b):∀(n s:Nat),UU P D (λ_:Nat=>e) (λi=>i*ks.length) (s*ks.length) (List.range' s n 1) (List.replicate n ks).flatten
 |0,s=>UU.nil
 |n+1,s=>by
  rw[zJ,List.replicate_succ,List.flatten_cons];refine UU.cons rfl a ?_;have:=NJ a n (s+1);rw[nX,Nat.one_mul]at this;exact this
theorem VA{len:Nat}{i:TypeInfo}{ks:List Nat}(h:P.underlying t=some (.array len e))(hi:P.info? t=some i)(c:sS P D e ks ag)(p:i.size=(List.replicate len ks).flatten.length)(a:0<(List.replicate len ks).flatten.length):sS P (D+1) t (List.replicate len ks).flatten true:=by
 have g:=NJ c len 0;rw[jl]at g;refine⟨λw=>JK h rfl,λw=>by have:=ak.sizeOf (w:=w) hi;rw[p]at this;exact this,λh=>(by cases h),a,λn b w x l ι q j k=>?_,λn w x y l m ι r q j u k A=>?_⟩
 .obtain⟨n,rfl⟩:∃o,n=o+1:=⟨n - 1,by omega⟩
  unfold Instr.checkKey;refine ak.aG (ak.underlying h) ?_;simp only[L9,if_true];rw[Std.Legacy.Range.forIn_eq_forIn_range'];have e1:(Std.Legacy.Range.size { start:=0,stop:=len,step:=1,step_pos:=Nat.one_pos })=len:=by simp[Std.Legacy.Range.size]
  rw[e1];refine ak.aG (SS (d:=n) (b:=b) (x:=x) (by omega) g (λf B s v z hp C F G E=>?_) (by simpa using j) k) (ak.pure _);refine ak.aG (c.size w) ?_;exact ak.aG hp (ak.aG C (ak.pure _))
 .obtain⟨n,rfl⟩:∃o,n=o+1:=⟨n - 1,by omega⟩
  unfold Op.equalIn;refine ak.aG (ak.underlying h) ?_;simp only[L9,if_true];refine ak.aG (c.size w) ?_;rw[Std.Legacy.Range.forIn_eq_forIn_range'];have e1:(Std.Legacy.Range.size { start:=0,stop:=len,step:=1,step_pos:=Nat.one_pos })=len:=by simp[Std.Legacy.Range.size]
  rw[e1];refine ak.aG (SN (d:=n) (x:=x) (y:=y) (by omega) g (λf B s=>rfl) (by simpa using j) (by simpa using u) k A) ?_;cases r<;>exact ak.pure _
theorem sS.says{ks:List Nat}{a:TypeDesc}(h:sS P D t ks true)(d:D<=10000)(j:P.underlying t=some a)(k:P.eqGuardType P.depth t=false):∃a,P.underlying t=some a∧∀(x:Array Value) (l:List AV) (ι:Nm) (w:World),dS ι l x.toList->uT ks l=true->
 (∀b,ak P (Instr.checkKey b 10000 t (.agg x)) w () w [])∧
 ∀(y:Array Value) (m:List AV) (r:Bool),dS ι m y.toList->D6 l m=some r->
 ∀(e f:Operand),∀op,(op=BinOp.eql∨op=BinOp.neq)->ak P (eqGuard op t e f (.agg x) (.agg y)) w () w []∧ak P (Op.equal t (.agg x) (.agg y)) w r w []:=by
 refine⟨a,j,λx l ι w g i=>⟨λb=>h.ck 10000 b w x l ι d g i,λy m r n o e f op c=>⟨?_,h.eq 10000 w x y l m ι r d g n i o⟩⟩⟩;unfold eqGuard;have hp:ak P (do
  let p ← program;let q ← program
  if(!p.eqGuardType q.depth t)=true then pure ()else(do
   let b ← Op.eqGuardIn Op.maxDepth t (.agg x) (.agg y)
   if b = true then unsupported (.noEntry "binop/eql: two nil values of an interface type with methods, in a part of a struct or an array") else pure ())) w () w [] := by
  refine ak.aG ak.program (ak.aG ak.program ?_);simp only[k,Bool.not_false,if_true];exact ak.pure _
 rcases c with rfl|rfl
 .exact hp
 .exact hp
end
end
section
variable{P:Program}{ti:TI}
def aaW(P:Program):TD->TypeDesc->Bool
 | .bool,.bool=>true
 | .int k,.int k'=>zq k k'
 | .str,.string=>true
 | .ptr e,.pointer a=>Nat.beq e a
 | .slice e,.slice a=>Nat.beq e a
 | .map k e,.map k' a=>Nat.beq k k'&&Nat.beq e a&&(P.underlying k).isSome
 | .func,.func _ _ _=>true
 | .iface b,.interface f=>b==f.isEmpty
 | .struct c,.struct d=>Nat.beq c.length d.size&&(c.zip d.toList).all λp=>Nat.beq p.1.1 p.2.offset&&Nat.beq p.1.2.2 p.2.type&&(match P.info? p.2.type with |some g=>Nat.beq g.size p.1.2.1|none=>false)
 | .array n e,.array h a=>Nat.beq n h&&Nat.beq e a
 | .Oq,.unsafePointer=>true
 | .tuple,.tuple _=>true
 |_,_=>false
def Vy:Value->Bool
 | .agg _=>true
 |_=>false
def Wx(P:Program)(t:Nat)(ti:TI):Bool:=
 match P.info? t,P.underlying t with
 |some i,some d=>(match i.zero with
  |some z=>Nat.beq i.size ti.size&&Nat.beq i.bytes ti.bytes&&Nat.beq z.cells.size ti.size&&Nat.beq ti.zero.length ti.size&&(Vy z==ti.isAgg)&&AV.BZ ti.zero (z.cells.toList.map uV)&&aaW P ti.d d
  |none=>false)
 |_,_=>false
def allT{α:Type}(p:Nat->α->Bool):Tr α->Nat->Nat->Bool
 | .e,_,_=>true
 | .n l v r,a,b=>(match v with |some x=>p a x|none=>true)&&(allT p l (a+b) (2*b)&&allT p r (a+2*b) (2*b))
def vT{α:Type}(p:Nat->α->Prop):Tr α->Nat->Nat->Prop
 | .e,_,_=>True
 | .n l v r,a,b=>(∀x,v=some x->p a x)∧vT p l (a+b) (2*b)∧vT p r (a+2*b) (2*b)
theorem vT.get{α:Type}{p:Nat->α->Prop}:∀{t:Tr α} {a b i:Nat} {x:α},vT p t a b->t.get i=some x->p (a+b*i) x
 | .e,a,b,i,x,_,h=>by rw[Tr.fO]at h;cases h
 | .n l v r,a,b,i,x,H,h=>by
   obtain⟨h1,d,f⟩:=H;rw[Tr.jS]at h;by_cases h0:i=0
   .subst h0
    simp at h;have:=h1 x h;simpa using this
   .by_cases c:i % 2=1
    .simp[h0,c]at h
     have:=vT.get d h;have e:a+b+2*b*(i / 2)=a+b*i:=by
      have:i=2*(i / 2)+1:=by omega
      conv=>rhs;rw[this]
      rw[Nat.mul_add,bJ,← Nat.mul_assoc,oI b 2];omega
     rw[e]at this;exact this
    .simp[h0,c]at h
     have:=vT.get f h;have e:a+2*b+2*b*(i / 2 - 1)=a+b*i:=by
      have:i=2*(i / 2 - 1)+2:=by omega
      conv=>rhs;rw[this]
      rw[Nat.mul_add,← Nat.mul_assoc,oI b 2];omega
     rw[e]at this;exact this
theorem LK{α:Type}{p:Nat->α->Bool}:∀{t:Tr α} {a b:Nat},allT p t a b=true->vT (λi x=>p i x=true) t a b
 | .e,_,_,_=>trivial
 | .n l v r,a,b,h=>by
   unfold allT at h;rw[aF,aF]at h;obtain⟨h1,c,d⟩:=h;refine⟨λx f=>?_,LK c,LK d⟩;subst f;exact h1
theorem Ar{ι:Nm}:∀l:List Value,dS ι (l.map uV) l
 |[]=>dG
 |v::l=>cO (DL v) (Ar l)
theorem aaV{a:TD}{d:TypeDesc}(h:aaW P a d=true):match(generalizing:=false) a,d with
 | .bool,.bool=>True
 | .int k,.int k'=>k=k'
 | .str,.string=>True
 | .ptr e,.pointer c=>e=c
 | .slice e,.slice c=>e=c
 | .map k e,.map k' c=>k=k'∧e=c∧∃o,P.underlying k=some o
 | .func,.func _ _ _=>True
 | .iface b,.interface p=>b=p.isEmpty
 | .struct j,.struct l=>j.length=l.size∧∀(i:Nat) (x:Nat×Nat×TypeId) (g:Field),j[i]? =some x->l[i]? =some g->x.1=g.offset∧x.2.2=g.type∧∃m,P.info? g.type=some m∧m.size=x.2.1
 | .array n e,.array q c=>n=q∧e=c
 | .Oq,.unsafePointer=>True
 | .tuple,.tuple _=>True
 |_,_=>False:=by
 cases a<;>cases d<;>simp only[aaW,gJ]at h ⊢
 .exact nJ h
 .exact au h
 .exact au h
 .rw[aF,aF]at h
  exact⟨au h.1.1,au h.1.2,Option.isSome_iff_exists.1 h.2⟩
 .exact eq_of_beq h
 .rw[aF,fM]at h
  refine⟨au h.1,λi x g r s=>?_⟩;have t:(x,g)∈List.zip _ _:=bP (i:=i) (by rw[List.getElem?_zip_eq_some];exact⟨r,by rw[bI];exact s⟩);have:=h.2 _ t;simp only[aF]at this;refine⟨au this.1.1,au this.1.2,?_⟩;have f:=this.2;split at f
  .exact⟨_,‹_›,au f⟩
  .cases f
 .rw[aF]at h
  exact⟨au h.1,au h.2⟩
theorem Zx{t:Nat}(h:Wx P t ti=true):VY P t ti:=by
 unfold Wx at h;split at h
 .rename_i i d hi e
  split at h
  .rename_i z f
   simp only[aF]at h;obtain⟨⟨⟨⟨⟨⟨h1,g⟩,j⟩,k⟩,c⟩,a⟩,l⟩:=h;have a:=AV.uG a;have c:Vy z=ti.isAgg:=eq_of_beq c;refine⟨⟨i,z,hi,au h1,au g,f,λι=>?_,λι=>by rw[a];exact Ar _,au j,au k⟩,d,e,aaV l⟩;unfold TI.zeroV;rw[← c];cases b:Vy z with
   |true=>
    obtain⟨cs,rfl⟩:∃cs,z= .agg cs:=by cases z<;>first|exact⟨_,rfl⟩|cases b
    exact Qj (by rw[a];exact Ar _)
   |false=>
    have m:z.cells=#[z]:=by cases z<;>first|rfl|cases b
    rw[a,m];exact DL z
  .cases h
 .cases h
end
section
variable{n:Nat}{rs:List ResultVar}
def Qo(P:Program)(fn:Func):EX->Prop
 | .wW=>∃e,Extern.find fn=some e∧∀v,e #[v]=Pure.pure v
 | .Ak=>∃e,Extern.find fn=some e∧∀vs,e vs=Pure.pure (.bool false)
 | .race=>∃m:Addr->Mark,Extern.find fn=some (Extern.Race.marked m)∧(m= .acquire∨m= .release∨m= .releaseMerge∨m= .read∨m= .write)
 | .YR=>Extern.find fn=some (λ_=>do mark .disable;Pure.pure Extern.Race.none_)
 | .en=>Extern.find fn=some (λ_=>do mark .enable;Pure.pure Extern.Race.none_)
 | .I7 k=>Extern.find fn=some (Extern.Atomic.update (Op.intArith .add) k true)
 | .I5 k=>Extern.find fn=some (Extern.Atomic.casT (.int k))
 | .EG k=>Extern.find fn=some (Extern.Atomic.loadT (.int k))
 | .Ez=>Extern.find fn=some Extern.BytealgCompare.compare
 | .zl=>Extern.find fn=some Extern.MapsClone.clone
 | .overlaps=>∃ps a t e i,Extern.find fn=some (Extern.SlicesOverlaps.overlaps ps a)∧ps[0]? =some t∧P.underlying t=some (.slice e)∧P.info? e=some i
 | .stop=>False
def V6(P:Program)(g:Nat)(a:FI):Prop:=
 ∃ fn, P.funcs[g]? = some fn ∧ fn.ntmps = a.ntmps ∧ fn.results.toList = a.results ∧ fn.body = a.body ∧ (fn.name == "runtime.NumGoroutine") = false ∧
  (a.body.isSome=true∨a.ext= .stop∨(Extern.findNext fn=none∧Qo P fn a.ext))
section
variable{P:Program}{E:Env}
theorem adU(H:vT (V6 P) E.ft 0 1){g:Nat}{a:FI}(h:E.ft.get g=some a):V6 P g a:=by
 have:=vT.get H h;simpa using this
theorem xu (H : vT (V6 P) E.ft 0 1) {g : Nat} {x : EX} (h : E.ft.get g = some ⟨none, n, rs, x⟩) (b : x ≠ .stop) : ∃ fn, P.funcs[g]? = some fn ∧ (fn.name == "runtime.NumGoroutine") = false ∧ fn.body.isNone = true ∧ Extern.findNext fn = none ∧ Qo P fn x := by
 obtain⟨fn,h1,i,j,c,d,e⟩:=adU H h;rcases e with a|a|⟨a,f⟩
 .cases a
 .exact aX a b
 .exact⟨fn,h1,d,by rw[c];rfl,a,f⟩
theorem KP(H:vT (V6 P) E.ft 0 1):X8 P E where
 wW g n rs h:=by
  obtain⟨fn,h1,a,b,c,e,d,f⟩:=xu H h (by simp);exact⟨e,⟨fn,h1,a,b,c,d⟩,f⟩
 Ak g n rs h:=by
  obtain⟨fn,h1,a,b,c,e,d,f⟩:=xu H h (by simp);exact⟨e,⟨fn,h1,a,b,c,d⟩,f⟩
 race g n rs h:=by
  obtain⟨fn,h1,a,b,c,m,d,f⟩:=xu H h (by simp);exact⟨m,⟨fn,h1,a,b,c,d⟩,f⟩
 YR g n rs h:=by
  obtain⟨fn,h1,a,b,c,d⟩:=xu H h (by simp);exact⟨fn,h1,a,b,c,d⟩
 en g n rs h:=by
  obtain⟨fn,h1,a,b,c,d⟩:=xu H h (by simp);exact⟨fn,h1,a,b,c,d⟩
 I7 g n rs k h:=by
  obtain⟨fn,h1,a,b,c,d⟩:=xu H h (by simp);exact⟨fn,h1,a,b,c,d⟩
 I5 g n rs k h:=by
  obtain⟨fn,h1,a,b,c,d⟩:=xu H h (by simp);exact⟨fn,h1,a,b,c,d⟩
 EG g n rs k h:=by
  obtain⟨fn,h1,a,b,c,d⟩:=xu H h (by simp);exact⟨fn,h1,a,b,c,d⟩
 Ez g n rs h:=by
  obtain⟨fn,h1,a,b,c,d⟩:=xu H h (by simp);exact⟨fn,h1,a,b,c,d⟩
 zl g n rs h:=by
  obtain⟨fn,h1,a,b,c,d⟩:=xu H h (by simp);exact⟨fn,h1,a,b,c,d⟩
 overlaps g n rs h:=by
  obtain⟨fn,h1,a,b,c,ps,j,t,e,i,d,f⟩:=xu H h (by simp);exact⟨ps,j,t,e,i,⟨fn,h1,a,b,c,d⟩,f⟩
theorem TA(H:vT (V6 P) E.ft 0 1)(a:P.follows .mixedOrders=true):eU P E where
 code g c n rs x h:=by
  obtain⟨fn,h1,b,d,e,f,_⟩:=adU H h;exact⟨fn,h1,e,b,d,f⟩
 ext:=aeX (KP H)
 mixed:=a
 afp:=rfl
theorem Zq(H:allT (Wx P) E.tt 0 1=true):∀t ti,E.tt.get t=some ti->VY P t ti:=λt ti h=>by
 have:=vT.get (LK H) h;simp only[fA,Nat.one_mul]at this;exact Zx this
theorem RQ{t:TypeId}{i:TypeInfo}{m:Method}{g:FuncId}{c:String}{e:TypeId}(hi:P.info? t=some i)(f:P.underlying t=some (.pointer e))(h:i.methods.find? (λm=>m.name==c)=some m)(hp:m.path.toList=[])(j:m.func=some (g,true)){b:Nat}(d:b≠0)
 (v:Value)(w:World):ak P (method b t v c) w (g,v) w []:=by
 cases b with
 |zero=>exact aX rfl d
 |succ b=>
  unfold method;refine ak.aG (ak.typeInfo hi) ?_;simp only[h,hp,j];refine ak.aG (a:=(t,Place.val v)) (by unfold follow;exact ak.pure _) ?_;refine ak.aG (a:=v) ?_ (ak.pure _);unfold receiverAt;exact ak.aG (ak.underlying f) (ak.pure _)
end
end
section
variable{P:Program}{xs:List (Nat×EX)}
def DW{α:Type}:List α->Bool->List α
 |[],_=>[]
 |x::l,true=>x::DW l false
 |_::l,false=>DW l true
def mkT{α:Type}:Nat->List (Option α)->Tr α
 |0,_=> .e
 |n+1,l=>match l with
  |[]=> .e
  |x::r=> .n (mkT n (DW r true)) x (mkT n (DW r false))
theorem Oy{α:Type}:∀(l:List α) (i:Nat),(DW l true)[i]? =l[2*i]? ∧(DW l false)[i]? =l[2*i+1]?
 |[],i=>⟨by simp[DW],by simp[DW]⟩
 |x::l,i=>by
  have h:=Oy l;refine⟨?_,?_⟩
  .cases i with
   |zero=>rfl
   |succ i=>show(DW l false)[i]? =(x::l)[2*i+1+1]?;rw[(h i).2,jE]
  .show(DW l true)[i]? =_;rw[(h i).1,jE]
theorem O7{α:Type}{p:Nat->α->Prop}:∀(n:Nat) (l:List (Option α)) (a b:Nat),(∀i x,l[i]? =some (some x)->p (a+b*i) x)->vT p (mkT n l) a b
 |0,_,_,_,_=>trivial
 |n+1,[],_,_,_=>trivial
 |n+1,x::r,a,b,h=>by
  refine⟨λy e=>?_,O7 n _ _ _ λi y e=>?_,O7 n _ _ _ λi y e=>?_⟩
  .have:=h 0 y (by rw[e];rfl)
   simpa using this
  .rw[(Oy r i).1]at e
   have:=h (2*i+1) y (by rw[jE];exact e);rw[show a+b*(2*i+1)=a+b+2*b*i by rw[Nat.mul_add,bJ,← Nat.mul_assoc,oI b 2];omega]at this;exact this
  .rw[(Oy r i).2]at e
   have:=h (2*i+1+1) y (by rw[jE];exact e);rw[show a+b*(2*i+1+1)=a+2*b+2*b*i by rw[Nat.mul_add,Nat.mul_add,bJ,← Nat.mul_assoc,oI b 2];omega]at this;exact this
def VD:List (Nat×EX)->Nat->EX
 |[],_=> .stop
 |p::l,i=>cond (Nat.beq p.1 i) p.2 (VD l i)
theorem XC:∀(a:List (Nat×EX)) (i:Nat),VD a i= .stop∨(i,VD a i)∈a
 |[],_=> .inl rfl
 |p::l,i=>by
  show cond (Nat.beq p.1 i) p.2 (VD l i)=_∨(i,cond (Nat.beq p.1 i) p.2 (VD l i))∈_;cases h:Nat.beq p.1 i with
  |true=>have:=au h;subst this;exact .inr (dA ..)
  |false=>exact(XC l i).imp id (aY _)
def fiL(a:List (Nat×EX)):List Func->Nat->List (Option FI)
 |[],_=>[]
 |f::l,i=>some ⟨f.body,f.ntmps,f.results.toList,VD a i⟩::fiL a l (i+1)
theorem aaQ{b:List (Nat×EX)}:∀{l:List Func} {k i:Nat} {a:FI},(fiL b l k)[i]? =some (some a)->∃f,l[i]? =some f∧a=⟨f.body,f.ntmps,f.results.toList,VD b (k+i)⟩
 |[],k,i,a,h=>by simp[fiL]at h
 |f::l,k,0,a,h=>by cases h;exact⟨f,rfl,rfl⟩
 |f::l,k,i+1,a,h=>by
  obtain⟨g,h1,c⟩:=aaQ (l:=l) (k:=k+1) (i:=i) h;exact⟨g,h1,by rw[c,Nat.add_right_comm];rfl⟩
theorem aga (n : Nat) (b : (P.funcs.toList.all λ f => !(f.name == "runtime.NumGoroutine")) = true)
 (c:∀p∈xs,∃fn,P.funcs[p.1]? =some fn∧Extern.findNext fn=none∧Qo P fn p.2):vT (V6 P) (mkT n (fiL xs P.funcs.toList 0)) 0 1:=by
 refine O7 n _ 0 1 λi j h=>?_;obtain⟨f,h1,rfl⟩:=aaQ h;rw[fA,fA,Nat.one_mul];have a:P.funcs[i]? =some f:=by rw[← bI];exact h1
 refine⟨f,a,rfl,rfl,rfl,?_,?_⟩
 .have:=(fM.1 b) f (bP h1)
  simpa using this
 .rcases XC xs i with h|h
  .exact .inr (.inl h)
  .obtain⟨fn,d,e,g⟩:=c _ h
   cases a.symm.trans d;exact .inr (.inr ⟨e,g⟩)
def aho(P:Program)(t:TypeId):Option TD:=
 match P.underlying t with
 |some .bool=>some .bool
 |some (.int k)=>some (.int k)
 |some .string=>some .str
 |some (.pointer e)=>some (.ptr e)
 |some (.slice e)=>some (.slice e)
 |some (.map k e)=>some (.map k e)
 |some (.func ..)=>some .func
 |some (.interface a)=>some (.iface a.isEmpty)
 |some (.struct b)=>some (.struct (b.toList.map λf=>(f.offset,(match P.info? f.type with |some i=>i.size|none=>0),f.type)))
 |some (.array n e)=>some (.array n e)
 |some .unsafePointer=>some .Oq
 |some (.tuple _)=>some .tuple
 |_=>none
def ahn(P:Program)(t:TypeId):Option TI:=
 match P.info? t,aho P t with
 |some i,some d=>(match i.zero with
  |some z=>some ⟨d,i.size,i.bytes,z.cells.toList.map uV⟩
  |none=>none)
 |_,_=>none
def tiL(P:Program):Nat->Nat->List (Option TI)
 |0,_=>[]
 |n+1,t=>ahn P t::tiL P n (t+1)
end
section
open Go.Conc (G)
variable{K:Ctx}{ds:List AD}{td:List AI}{w:World}{ι:Nm}
mutual
theorem AV.jI:∀a:AV,a.ren (λi=>i)=a
 | .any| .one| .pO| .aQ| .emp| .pF| .um| .uj| .bool _| .int _ _| .str _| .ptr _ _| .sl _ _ _ _| .map _| .yield _| .aO _ _ _=>by simp[AV.ren]
 | .fn _ a b=>by simp[AV.ren,AV.qw a,AV.qw b]
 | .iface _ v=>by simp[AV.ren,AV.jI v]
 | .agg l=>by simp[AV.ren,AV.qw l]
 | .gI l=>by simp[AV.ren,AV.qw l]
theorem AV.qw:∀l:List AV,AV.jM (λi=>i) l=l
 |[]=>by simp[AV.jM]
 |a::l=>by simp[AV.jM,AV.jI a,AV.qw l]
end
theorem Jz{α:Type}{f:α->α}(b:∀a,f a=a):∀t:Tr α,zk f t=t
 | .e=>rfl
 | .n l v r=>by
   unfold zk;rw[Jz b l,Jz b r];cases v<;>simp[b]
theorem AO.jI(o:AO):o.ren (λi=>i)=o:=by
 cases o with
 |cells vs e g z=>simp[AO.ren,AV.qw]
 |map es c=>
  simp only[AO.ren,AO.map.injEq,iM];induction es with
  |nil=>rfl
  |cons e es a=>simp[AV.jI,a]
 |KE m s l p=>cases m<;>rfl
 |loop st p fn nt tm ps x y d=>simp[AO.ren,Jz AV.jI]
 |_=>rfl
def yL:List AI->Bool
 |[]=>true
 | .code _::l| .inBlock _::l| .inLoop _::l| .inScope _::l| .inRegion _ _::l=>yL l
 |_::_=>false
theorem rG{ι ι':Nm}:∀{l:List AI} {is:List Item},yL l=true->Gy ι l is->Gy ι' l is
 |[],_,_,h=>h
 |a::l,is,hp,⟨i,r,h1,h2,b⟩=>by
  cases a<;>first|(cases hp;done)|exact⟨i,r,h1,h2,rG hp b⟩
structure AF.low(n:Nat)(f:AF):Prop where
 tm:yZ n f.tm=true
 todo:yL f.todo=true
 ds:f.ds=[]
 round:f.x.round=none
theorem RF.Yz{n:Nat}{ι ι':Nm}(H:∀i p,(i<n∨OLD<=i)->ι i=some p->ι' i=some p){f:AF}{fr:Frame}(b:f.low n)(R:RF ι f fr):RF ι' f fr:=by
 have d:Az n (λi=>i) ι ι':=λi p hi hp=>H i p hi hp;refine⟨R.fn,⟨R.tm.1,λt a c=>RV.iY d (rE b.tm c) (by rw[AV.jI];exact R.tm.2 t a c)⟩,rG b.todo R.todo,?_,R.mode,R.kind,?_⟩
 .have:=R.ds
  rw[b.ds]at this ⊢;exact this
 .have:=R.round
  rw[b.round]at this ⊢;exact this
structure Moves(ρ:Nat->Nat)(n:Nat)(h2 h':AH):Prop where
 le:n<=h'.nx
 le2:h'.nx<=h2.nx
 top:h2.nx<=OLD
 df:h'.df=h2.df
 same:∀i,(i<n∨OLD<=i)->ρ i=i
 new:∀i,n<=i->i<h'.nx->n<=ρ i∧ρ i<h2.nx
 inj:∀i j,i<h'.nx->j<h'.nx->ρ i=ρ j->i=j
 obj:∀i o,h'.tr.get i=some o->o.live->i<h'.nx∧h2.tr.get (ρ i)=some (o.ren ρ)
 Yz:jG h'.nx h'.tr=true
def nK(n:Nat)(ι:Nm):Nm:=λi=>if i<n∨OLD<=i then ι i else none
theorem Sat.cap{K:Ctx}{ι:Nm}{h:AH}{w:World}(S:Sat K ι h w)(a:∀i o,h.tr.get i=some o->o.live->i<h.nx)(k:jG h.nx h.tr=true):Sat K (nK h.nx ι) h w:=by
 have m:Az h.nx (λi=>i) ι (nK h.nx ι):=λi p hi hp=>by unfold nK;rw[aC hi];exact hp
 refine⟨λi o e l=>?_,λi j o g p q e1 e2 l1 l2 hp b c=>?_,S.lo,S.bs,S.old,S.os,S.tape,S.output,λn i p hi=>?_⟩
 .obtain⟨p,ob,h1,h2,r,s,t⟩:=S.objs i o e l
  have:o.ren (λi=>i)=o:=AO.jI o;exact⟨p,ob,by unfold nK;rw[aC (.inl (a i o e l))];exact h1,h2,r,s,RO.iY m (pW k e) (by rw[this];exact t)⟩
 .unfold nK at hp b
  rw[aC (.inl (a i o e1 l1))]at hp;rw[aC (.inl (a j g e2 l2))]at b;exact S.inj i j o g p q e1 e2 l1 l2 hp b c
 .have d:OLD<=i:=by
   unfold dR at hi;rcases aT i OLD with h1|h1
   .rw[ah (by omega)]at hi;cases hi
   .exact h1
  unfold nK;rw[aC (.inr d)];exact S.kV n i p hi
def AF.ren(ρ:Nat->Nat)(f:AF):AF:=⟨f.x,zk (AV.ren ρ) f.tm,f.todo,f.ds,f.ret⟩
section
variable{P:Program}{E:Env}{f W X:AF}{h Y Z:AH}{ρ:Nat->Nat}
theorem OX{i:Nat}{p:Nat×Nat}(hi:dR i=some p):OLD<=i:=by
 unfold dR at hi;rcases aT i OLD with h1|h1
 .rw[ah (by omega)]at hi;cases hi
 .exact h1
theorem Sat.moved{d:Nm}{n:Nat}(M:Moves ρ n Y Z)(S:Sat K d Y w)(k:∀i,(i<n∨OLD<=i)->d i=ι i):
 ∃ι':Nm,(∀i,(i<n∨Z.nx<=i)->ι' i=ι i)∧Az Z.nx ρ d ι'∧Sat K ι' Z w:=by
 let ι':Nm:=λi=>if n<=i∧i<Z.nx then d (ρ i)else ι i;have h1:∀i,¬(n<=i∧i<Z.nx)->ι' i=ι i:=λi hi=>ah hi;have r:∀i,n<=i->i<Z.nx->ι' i=d (ρ i):=λi a b=>aC ⟨a,b⟩;have c:∀i,i<Z.nx∨OLD<=i->ι' i=d (ρ i):=λi hi=>by
  by_cases s:n<=i∧i<Z.nx
  .exact r i s.1 s.2
  .have g:i<n∨OLD<=i:=by omega
   rw[h1 i s,M.same i g,k i g]
 have u:Az Z.nx ρ d ι':=λi p hi hp=>by rw[c i hi];exact hp
 refine⟨ι',λi hi=>h1 i (by omega),u,⟨λi o e l=>?_,λi j o y p q e1 e2 l1 l2 hp v t=>?_,S.lo,S.bs,S.old,S.os,S.tape,S.output,λz i p hi=>?_⟩⟩
 .obtain⟨m,g2⟩:=M.obj i o e l
  obtain⟨p,ob,k1,A,B,C,D⟩:=S.objs (ρ i) _ g2 (AO.fF.2 l);exact⟨p,ob,by rw[c i (.inl m)];exact k1,A,B,C,RO.iY u (pW M.Yz e) D⟩
 .obtain⟨m,g2⟩:=M.obj i o e1 l1
  obtain⟨x,F⟩:=M.obj j y e2 l2;rw[c i (.inl m)]at hp;rw[c j (.inl x)]at v;exact M.inj i j m x (S.inj _ _ _ _ p q g2 F (AO.fF.2 l1) (AO.fF.2 l2) hp v t)
 .have g:=OX hi
  rw[c i (.inr g),M.same i (.inr g)];exact S.kV z i p hi
theorem DoesS.move(A:DoesS P E f h W Y)(M:Moves ρ h.nx Y Z)(r:f.low h.nx)(s:jG h.nx h.tr=true)(u:∀i o,h.tr.get i=some o->o.live->i<h.nx)(e:W=X.ren ρ)(c:X.low Z.nx):DoesS P E f h X Z:=by
 subst e;refine⟨M.le,A.2.1,λK ι w fr cs v S R y=>?_⟩;have z:=S.cap u s;have B:RF (nK h.nx ι) f fr:=RF.Yz (n:=h.nx) (λi p hi hp=>by unfold nK;rw[aC hi];exact hp) r R;have C:Free (nK h.nx ι) h.nx Y.nx:=λi a b=>by unfold nK;rw[ah (by have:=M.top;omega)]
 refine(A.2.2 K _ w fr cs v z B C).mono ?_
 rintro d g w' ⟨l,m,rfl,D,g2,j,rfl⟩
 have k:∀i,(i<h.nx∨OLD<=i)->l i=ι i:=λi hi=>by
  rw[D.same i (by have:=M.top;omega)];unfold nK;rw[aC hi]
 obtain⟨ι',k1,F,G⟩:=g2.moved M k;refine⟨ι',m,rfl,⟨M.le,k1⟩,G,?_,M.df.symm⟩;refine⟨j.fn,⟨j.tm.1,λt a q=>RV.iY F (rE c.tm q) (j.tm.2 t (a.ren ρ) (by show(zk (AV.ren ρ) X.tm).get t=_;rw[qL,q];rfl))⟩,rG c.todo j.todo,?_,j.mode,j.kind,?_⟩
 .have:=j.ds
  rw[show(X.ren ρ).ds=X.ds from rfl,c.ds]at this;rw[c.ds];exact this
 .have:=j.round
  rw[show(X.ren ρ).x=X.x from rfl,c.round]at this;rw[c.round];exact this
theorem DoesC.move{g:FuncId}{args:List AV}{l:AV}(A:DoesC P E g args h (l.ren ρ) Y)(M:Moves ρ h.nx Y Z)(q:AV.fG h.nx args=true)(r:jG h.nx h.tr=true)(s:∀i o,h.tr.get i=some o->o.live->i<h.nx)(t:l.low Z.nx=true):DoesC P E g args h l Z:=by
 refine⟨M.le,λK ι w vs c k v S e x y=>?_⟩;have z:=S.cap s r;have m:Az h.nx (λi=>i) ι (nK h.nx ι):=λi p hi hp=>by unfold nK;rw[aC hi];exact hp
 have B:dS (nK h.nx ι) args vs.toList:=dS.iY m q (by rw[AV.qw];exact e);have C:Free (nK h.nx ι) h.nx Y.nx:=λi a b=>by unfold nK;rw[ah (by have:=M.top;omega)]
 refine(A.2 K _ w vs c k v z B x C).mono ?_
 rintro d g w' ⟨n,u,rfl,D,g2,F,rfl⟩
 have j:∀i,(i<h.nx∨OLD<=i)->n i=ι i:=λi hi=>by
  rw[D.same i (by have:=M.top;omega)];unfold nK;rw[aC hi]
 obtain⟨ι',k1,G,H⟩:=g2.moved M j;exact⟨ι',u,rfl,⟨M.le,k1⟩,H,RV.iY G t F,M.df.symm⟩
theorem DoesS.forget{x:AX}{tm b:Tr AV}{r:Bool}(c:∀t a,b.get t=some a->tm.get t=some a):DoesS P E ⟨x,tm,td,ds,r⟩ h ⟨x,b,td,ds,r⟩ h:=
 ⟨aj _,rfl,λ_ ι _ fr _ _ S R _=> .stop λ_ hr=>⟨ι,fr,rfl,Grow.refl _ _,S.rely hr,⟨R.fn,⟨R.tm.1,λt a d=>R.tm.2 t a (c t a d)⟩,R.todo,R.ds,R.mode,R.kind,R.round⟩,rfl⟩⟩
end
end
section
variable{E:Env}{P:Program}{f f':AF}{h h':AH}{obs:List Prop}{v:AV}
def cGo:List Nat->Code->Code
 |[],c=>c
 |i::p,.seq a b=>if i==0 then cGo p a else cGo p b
 |i::p,.cond _ a b=>if i==0 then cGo p a else cGo p b
 |_::p,.block _ a=>cGo p a
 |_::p,.loop a=>cGo p a
 |_::p,.scope a=>cGo p a
 |i::p,.rangeFunc _ _ a b=>if i==0 then cGo p a else cGo p b
 |_,c=>c
def iQ(f:Func)(p:List Nat):Code:=match f.body with |some c=>cGo p c|none=> .skip
abbrev zL{α:Type}(v:α):Tr α:= .n .e (some v) .e
abbrev zN{α:Type}(l:Tr α)(v:α)(r:Tr α):Tr α:= .n l (some v) r
abbrev zO{α:Type}(l r:Tr α):Tr α:= .n l none r
abbrev zI(n:Int):AV:= .int .i64 n
abbrev zP(a b:Nat):AV:= .ptr a b
abbrev zC(l:List AV)(t:TypeId):AO:= .cells l t false false
abbrev zG(l:List AV)(t:TypeId):AO:= .cells l t true false
noncomputable def ent(E:Env)(g:FuncId)(args:List AV):AF:=match jJ E g args false with |some f=>f|none=>⟨⟨0,false,none,0⟩,.e,[],[],false⟩
theorem DoesC.ent{P:Program}{E:Env}(FF:eU P E){g:FuncId}{args:List AV}{h h':AH}{v:AV}(e:(jJ E g args false).isSome=true)(H:Does P E (ent E g args) h v h'):DoesC P E g args h v h':=by
 cases a:jJ E g args false with
 |none=>rw[a]at e;cases e
 |some f=>
  unfold Ev.ent at H;rw[a]at H;exact DoesC.enter FF a H
noncomputable def NH:List Nat->Tr AV->Tr AV
 |[],_=> .e
 |i::l,t=>match t.get i with
  |some a=>(NH l t).set i a
  |none=>NH l t
theorem H9:∀(l:List Nat) (t:Tr AV) (i:Nat) (a:AV),(NH l t).get i=some a->t.get i=some a
 |[],t,i,a,e=>by unfold NH at e;rw[Tr.fO]at e;cases e
 |j::l,t,i,a,e=>by
  unfold NH at e;split at e
  .rename_i b c
   rcases Tr.uD e with⟨rfl,rfl⟩|⟨_,h⟩
   .exact c
   .exact H9 l t i a h
  .exact H9 l t i a e
noncomputable def Xt(l:List Nat)(f:AF):AF:=match f with |⟨x,tm,td,ds,r⟩=>⟨x,NH l tm,td,ds,r⟩
theorem DoesS.keep{P:Program}{E:Env}{f f':AF}{h h':AH}(l:List Nat)(A:DoesS P E f h f' h'):DoesS P E f h (Xt l f') h':=by
 obtain⟨x,tm,td,ds,r⟩:=f';exact A.trans (DoesS.forget (H9 l tm))
theorem W9(F:Fits P E)(FF:eU P E)(l:List UK)(keep:List Nat)
 (e:(match yu P E l f h with |some (a,h1,o)=>some (Xt keep a,h1,o)|none=>none)=some (f',h',obs))(H:All obs):DoesS P E f h f' h':=by
 split at e
 .rename_i a h1 o hp
  cases e;exact DoesS.keep keep (path_ok F FF l f h hp H)
 .cases e
theorem Rh(F:Fits P E)(FF:eU P E)(l:List UK)
 (e:(match yu P E l f h with |some (a,h1,o)=>(match iZ E a h1 with |some (.ret v b)=>some (v,b,o)|_=>none)|none=>none)=some (v,h',obs))(H:All obs):Does P E f h v h':=by
 split at e
 .rename_i a h1 o hp
  split at e
  .rename_i c
   cases e;exact Does.of (path_ok F FF l f h hp H) (Does.ret F FF c)
  .cases e
 .cases e
end
section
open Go.Conc
open Go.Conc.Lib (WgLib WgLink)
variable{a v:AV}{argsA:List AV}{fid:FuncId}{gs1:Array Goroutine}{h h1 h2:AH}{out:List FuncId}{s':OS}{t:TypeId}{ti:TI}{ι:Nm}
def DU:Value->Option AV
 | .bool b=>some (.bool b)
 | .int k n=>some (.int k n)
 | .string s=>some (.str s.data.toList)
 | .pointer none=>some .pO
 | .pointer (some ⟨b,o,none⟩)=>some (.ptr (OLD+b) o)
 | .slice none 0 0=>some (.aO none 0 0)
 | .slice (some ⟨b,o,s⟩) n c=>if n<=c∧(n≠0->s=none)then some (.aO (some (b,o)) n c)else none
 | .map none=>some .pF
 | .map (some b)=>some (.map (OLD+b))
 | .nilFunc=>some .um
 | .nilIface=>some .uj
 |_=>none
theorem P6{v:Value}(e:DU v=some a):RV dR a v:=by
 unfold DU at e;split at e
 all_goals first
  |(cases e;unfold RV;rfl)
  |(cases e;unfold RV;exact⟨_,Dk _,rfl⟩)
  |(cases e;unfold RV;exact⟨none,rfl,aj _,λ_=>⟨rfl,rfl⟩,λ_=>rfl⟩)
  |skip
 .split at e
  .rename_i b
   cases e;unfold RV;exact⟨_,rfl,b.1,λc=>(by cases c),b.2⟩
  .cases e
 .cases e
def uN(w:World)(b o:Nat):Option AV:=match w.cell? ⟨b,o,none⟩with |some v=>DU v|none=>none
noncomputable def Env.at(E:Env)(w:World):Env:={ E with old:=uN w,peek:=true }
theorem SH(E:Env)(w:World):Known (E.at w) w:=by
 intro b o a e;have e:uN w b o=some a:=e;unfold uN at e;split at e
 .rename_i v c
  refine⟨?_,v,c,P6 e⟩;unfold World.cell? at c;cases d:w.heap[b]? with
  |none=>simp[d]at c
  |some ob=>exact(aV.1 d).1
 .cases e
theorem OZ{E:Env}{w:World}{b o:Nat}{v:Value}{a:AV}(h:w.cell? ⟨b,o,none⟩=some v)(c:DU v=some a):(E.at w).old b o=some a:=by
 show uN w b o=some a;unfold uN;rw[h];exact c
theorem XO(b:Nat):Nat.ble OLD (OLD+b)=true:=bF (by omega)
theorem WB(b:Nat):OLD+b - OLD=b:=by omega
theorem yN{E:Env}{h:AH}{t:TypeId}{ti:TI}(c:E.tt.get t=some ti)(a:ti.isAgg=true){b off:Nat}{l:List AV}(d:iI E.old b off ti.size=some l):loadT E h t (OLD+b) off=some (.agg l):=by
 unfold loadT;rw[c];simp only[a,bG];unfold jA;rw[XO,bG,WB,d];rfl
theorem MJ{E:Env}(d:E.tt.get t=some ti)(c:ti.isAgg=false){b off:Nat}(e:E.old b off=some a):loadT E h t (OLD+b) off=some a:=by
 unfold loadT;rw[d];simp only[c,bH];rw[XO,bG,WB,e]
def ach(a:Nat->Nat):AV->AV
 | .ptr i o=> .ptr (cond (Nat.ble OLD i) i (OLD+a i)) o
 |v=>v
def ZU:AV->Bool
 | .ptr _ _=>true
 |a=>AV.low 0 a
def JV:Tr AV->Bool
 | .e=>true
 | .n l v r=>JV l&&(match v with |some a=>ZU a|none=>true)&&JV r
theorem GI:∀{t:Tr AV},JV t=true->∀{i:Nat} {a:AV},t.get i=some a->ZU a=true
 | .e,_,i,a,e=>by rw[Tr.fO]at e;cases e
 | .n l v r,h,i,a,e=>by
   unfold JV at h;simp only[aF]at h;rw[Tr.jS]at e;split at e
   .subst e;exact h.1.2
   .split at e
    .exact GI h.1.1 e
    .exact GI h.2 e
theorem Bl(a:Ext dR ι):Az 0 (λi=>i) ι dR:=λi p hi hp=>by
 have hi:OLD<=i:=by omega
 have:=a i (i - OLD,0) (by unfold dR;rw[aC hi]);rw[hp]at this;rw[aN this];unfold dR;rw[aC hi]
theorem acg(b:Ext dR ι){e:Nat->Nat}(c:∀i p,ι i=some p->i<OLD->e i=p.1){v:Value}(hr:ZU a=true)(h:RV ι a v):RV dR (ach e a) v:=by
 cases a with
 |ptr i o=>
  unfold RV at h;obtain⟨p,hp,rfl⟩:=h;unfold ach RV;cases d:Nat.ble OLD i with
  |true=>
   rw[bG];have hi:=aJ d;have:=b i (i - OLD,0) (by unfold dR;rw[aC hi]);rw[hp]at this;exact⟨p,by rw[aN this];unfold dR;rw[aC hi],rfl⟩
  |false=>
   rw[bH];have hi:i<OLD:=by
    rcases aT i OLD with h1|h1
    .exact h1
    .rw[bF h1]at d;cases d
   refine⟨_,Dk _,?_⟩;rw[c i p hp hi]
 |_=>exact RV.iY (Bl b) hr (by rw[AV.jI];exact h)
noncomputable def AF.reb(a:Nat->Nat)(f:AF):AF:=⟨f.x,zk (ach a) f.tm,f.todo,f.ds,f.ret⟩
theorem RF.reb{ι:Nm}(d:Ext dR ι){g:Nat->Nat}(h:∀i p,ι i=some p->i<OLD->g i=p.1){f:AF}{fr:Frame}(R:RF ι f fr)(l:JV f.tm=true)(hp:yL f.todo=true)(c:f.ds=[])(j:f.x.round=none):RF dR (f.reb g) fr:=by
 refine⟨R.fn,⟨R.tm.1,λt a e=>?_⟩,rG hp R.todo,?_,R.mode,R.kind,?_⟩
 .have e:(zk (ach g) f.tm).get t=some a:=e
  rw[qL]at e;obtain⟨b,k,rfl⟩:=aP.1 e;exact acg d h (GI l k) (R.tm.2 t b k)
 .have:=R.ds
  rw[c]at this;show Zb dR f.ds fr.defers;rw[c];exact this
 .have:=R.round
  rw[j]at this;show match f.x.round with |none=>fr.roundOf=none|some id=>∃p,dR id=some p∧fr.roundOf=some p.1
  rw[j];exact this
section
variable{P:Program}{I:pz}{W:World}{Z:Nat}
theorem finish{E:Env}(F:Fits P E)(FF:eU P E){w1:World}{i:Option (Nat×Nat)}{t1:Trace}(X:V3 P E W Z [] s' gs1 w1 i t1)(Y:s'.k=[])(hr:iZ E s'.f s'.h=some (.ret v h2))(p:s'.f.ret=true)(A:s'.f.ds=[])(hd:s'.f.x.deferred=false)(C:s'.h.df=0)
 (G:P.inits.idxOf? s'.f.x.fn=none){Post:Value->World->Prop}(l:∀u w,(∃ι,RV ι v u)->Z<=w.heap.size->(∀b,b<Z->w.heap[b]? =W.heap[b]?)->w.os=W.os->w.tape=W.tape->w.output=W.output->Post u w):
 ∃N g o w' O,runNT P (N+1) (crowd gs1 w1 i) t1=(.ended o w',O)∧runN P N (crowd gs1 w1 i)= .next g∧step P g= .ended o w'∧Conc.Good P Post g o w' O:=by
 obtain⟨K,Shun,a,q,H,j,r,Q,J,⟨ι,fr,L,rfl,hB,R,s,S,_,_⟩,hL,T⟩:=X;rw[Y]at s;have s:L=[]:=s;subst s;rw[C]at T;have m:fr.kind= .normal:=by rw[R.kind,hd];rfl
 exact beside_ends (P:=P) (Shun:=Shun) (B:=w1.heap.size) (D:=λ_ _ _=>False) (Post:=Post) (sl:=i) (n:=0) (λ_ _ _ h=>h.elim) J hL T.to (λU hw=>by
  obtain⟨d,rfl⟩:=hw;have c:Sat K ι s'.h (w1.at d):=S.rely (kX.drawn w1 d);obtain⟨u,es,g1,g2,t⟩:=VF F FF H c R hr p A;have hE:Post u (w1.at d):=l _ _ ⟨ι,g2⟩ (by have:=c.bs;rw[r]at this;exact qF λM=>jL _ (this _ M)) (λb y=>(c.old b (by rw[r];exact y)).trans (by rw[j])) (by rw[c.os,j]) (by rw[c.tape,j]) (by rw[c.output,j]);refine⟨rfl,u,es,?_,λe z=>⟨λx hx V=>?_,(t e z).still.1,(t e z).still.2,F5 (.inl (t e z))⟩,hE⟩
  .rw[dD,g1]
   unfold doReturn;simp only[m,R.fn,G];simp[GStep.after]
  .obtain⟨b,y,hb1,_⟩:=zx (.inl (t e z)) hx
   exact aX hb1 λh=>h.elim (Q _ b V y).1 (Q _ b V y).2)
structure Laid(h1:AH)(W w1:World)(bl:Nat->Nat):Prop where
 size:W.heap.size<=w1.heap.size
 old:∀b,b<W.heap.size->w1.heap[b]? =W.heap[b]?
 os:w1.os=W.os
 tape:w1.tape=W.tape
 output:w1.output=W.output
 cells:∀i vs el g z,h1.tr.get i=some (.cells vs el g z)->(∀a∈vs,AV.low 0 a=true)->∀o a,vs[o]? =some a->∃v,w1.cell? ⟨bl i,o,none⟩=some v∧RV dR a v
theorem the_run2{E:Env}(X:xZ P E I)(V:∀w,xZ P (E.at w) I)(r:∀w,wM (E.at w) I=true){L:WgLink}(H:WgLib P L)(Y:∀b o,E.old b o=none){f0 s:AF}(hf0:jJ E fid argsA false=some f0)
 (A:DoesS P E f0 F7 s h1)(D:h1.df=0)(hn1:h1.nx<=OLD)(ht:JV s.tm=true)(hp1:yL s.todo=true)(J:s.ds=[])(hx1:s.x.round=none)(W:World)(args:Array Value)(t:dS dR argsA args.toList)
 (y:∀(w1:World) (n:Nat->Nat),Laid h1 W w1 n->∃(m:OS) (h2:AH),Path P (E.at w1) I L.done L.tWg out ⟨s.reb n,[],F7⟩ m∧m.k=[]∧iZ (E.at w1) m.f m.h=some (.ret v h2)∧m.f.ret=true∧m.f.ds=[]∧m.f.x.deferred=false∧m.h.df=0∧P.inits.idxOf? m.f.x.fn=none):
 ∃M j o w' U,runNT P (M+1) (solo (G (Frame.enter P fid args .normal) []) W) #[]=(.ended o w',U)∧runN P M (solo (G (Frame.enter P fid args .normal) []) W)= .next j∧step P j= .ended o w'∧Conc.Good P (Ends W v) j o w' U:=by
 have hK0:Of (now P W) P E:=⟨rfl,λb o a e=>(by rw[Y]at e;cases e),λ_=>trivial⟩;have W1:=A.2.2 (now P W) dR W (Frame.enter P fid args .normal) [] hK0 (EY P (λ_ _ h=>h) W) (lV X.FF hf0 t rfl) (λi _ hi=>by unfold dR;rw[ah (by omega)]);have hA0:V7 (now P W) (λ_=>False):=λ_ _ h=>h.elim;obtain⟨N,gs1,w1,sl1,t1,q,a1,d1,q1,hN1,h01,⟨ι,fr,rfl,g1,g2,g3,rfl⟩,hL1,K⟩:=yV hA0 W1 W (kX.refl W) #[G (Frame.enter P fid args .normal) []] none #[] (λ_=>0) rfl (leavers_one P _) (mW.of (past_nil.mono (bK _)));rw[D]at K;have O:Ext dR ι:=g2.kV trivial;let n:Nat->Nat:=λi=>match ι i with |some p=>p.1|none=>0
 have hbl:∀i p,ι i=some p->i<OLD->n i=p.1:=λi p hp _=>by show(match ι i with |some p=>p.1|none=>0)=_;rw[hp]
 have d:Laid h1 W w1 n:=by
  refine⟨qF λhlt=>jL _ (g2.bs _ hlt),g2.old,g2.os,g2.tape,g2.output,λi vs el g z e Q o a ha=>?_⟩;obtain⟨p,ob,k1,k2,k3,k4,c,lo,hi,rfl,⟨l1,l2,hc,hv⟩,_⟩:=g2.objs i _ e trivial;obtain⟨u,B,hu2⟩:=hv.get ha;refine⟨u,?_,?_⟩
  .rw[show n i=p.1 from by show(match ι i with |some p=>p.1|none=>0)=_;rw[k1]]
   rw[cell_of k4,← bI,hc,aW]
   .exact B
   .rw[aA]at B;exact B.1
  .exact RV.iY (Bl O) (Q a (bP ha)) (by rw[AV.jI];exact hu2)
 obtain⟨m,h2,C,hk,hr,R,hds,hd,hdf,hin⟩:=y w1 n d;have hM:V3 P (E.at w1) w1 w1.heap.size [] ⟨s.reb n,[],F7⟩ gs1 w1 sl1 t1:=
  ⟨now P w1,λ_=>False,_,q1,⟨rfl,λb o a e=>⟨trivial,SH E w1 b o a e⟩,λ_=>trivial⟩,rfl,rfl,λ_ _ h=>h.elim,h01,⟨dR,fr,[],rfl,λi _ hi=>(by unfold dR;rw[ah (by omega)]),RF.reb O hbl g3 ht hp1 J hx1,rfl,EY P (λ_ _ h=>h) w1,rfl,λ_ _ h=>by cases h⟩,hL1,K⟩
 obtain⟨N2,gs2,w2,sl2,t2,l,hM2⟩:=Ho (V w1) (r w1) H C hM;obtain⟨N3,j,o,w',U,e1,e2,e3,e4⟩:=finish (V w1).F (V w1).FF hM2 hk hr R hds hd hdf hin (Post:=Ends W v) (λu w hv hsz S hos htp T=>
  ⟨hv,aS d.size hsz,λb hb=>(S b (jv hb d.size)).trans (d.old b hb),hos.trans d.os,htp.trans d.tape,T.trans d.output⟩)
 rw[solo_eq_crowd];refine⟨N+(N2+N3),j,o,w',U,?_,?_,e3,e4⟩
 .rw[oV,oV,runNT_add,q]
  simp only;rw[runNT_add,l];exact e1
 .rw[runN_add,← runNT_fst P _ _ #[],q]
  simp only;rw[runN_add,← runNT_fst P _ _ t1,l];exact e2
end
end
section
variable{g:FuncId}
def AF.af2(n:Nat)(f:AF):Bool:=match f with |⟨⟨_,_,r,_⟩,tm,td,ds,_⟩=>yZ n tm&&(yL td&&((match ds with |[]=>true|_=>false)&&(match r with |none=>true|_=>false)))
theorem AF.sJ{n:Nat}{f:AF}(h:f.af2 n=true):f.low n:=by
 obtain⟨⟨a,b,r,c⟩,tm,td,ds,g⟩:=f;unfold AF.af2 at h;simp only[aF]at h;obtain⟨h1,h2,d,e⟩:=h;refine⟨h1,h2,?_,?_⟩
 .cases ds with |nil=>rfl|cons a l=>cases d
 .cases r with |none=>rfl|some a=>cases e
section
variable{P:Program}{E:Env}{f f':AF}{n Z:Nat}{h2:AH}{v:AV}
theorem DoesC.over{args:List AV}(C:DoesC P E g args ⟨.e,0,Z⟩ v ⟨.e,0,Z⟩)(b:AV.fG 0 args=true)(d:v.low 0=true){h:AH}(a:h.df=Z)(c:h.nx<=OLD):DoesC P E g args h v h:=by
 subst a;have L:Zc (λi=>i) ⟨.e,0,h.df⟩ ⟨.e,0,h.df⟩ h h:=by
  refine⟨aj _,bK _,c,λ_ _ _ _ h=>h,λi hi=>aX hi (gV _),λi _ hi=>aX hi (gV _),λ_ _=>rfl,aj _,?_,?_,?_,λi o e _=> .inr ⟨e,?_⟩,rfl,rfl,rfl⟩
  all_goals (intro j o e;rw[show(⟨.e,0,h.df⟩:AH).tr= .e from rfl,Tr.fO]at e;cases e)
 have:=DoesC.frame C L b;rw[AV.qw,AV.jI]at this;exact this
end
end
section
variable{E:Env}{K:Ctx}{P:Program}{args:List AV}{g:FuncId}{h h2:AH}{ids:List Nat}{v:AV}{w:World}
theorem Of.under(c:∀b o,E.old b o=none)(hp:E.peek=false)(h:Of K P (E.at w)):Of K P E:=
 ⟨h.P,λb o a e=>(by rw[c]at e;cases e),λe=>(by rw[hp]at e;cases e)⟩
theorem DoesC.at{P:Program}{E:Env}(d:∀b o,E.old b o=none)(hp:E.peek=false){g:FuncId}{args:List AV}{h h':AH}{v:AV}(C:DoesC P E g args h v h')(w:World):DoesC P (E.at w) g args h v h':=
 ⟨C.1,λK ι w' vs c a e=>C.2 K ι w' vs c a (e.under d hp)⟩
def posB{α:Type}(f:Nat->Bool):Tr α->Bool
 | .e=>true
 | .n l v r=>posB (λi=>f (2*i+1)) l&&((match v with |some _=>f 0|none=>true)&&posB (λi=>f (2*i+2)) r)
theorem qJ{α:Type}:∀{t:Tr α} {f:Nat->Bool},posB f t=true->∀{i:Nat} {a:α},t.get i=some a->f i=true
 | .e,f,_,i,a,e=>by rw[Tr.fO]at e;cases e
 | .n l v r,f,h,i,a,e=>by
   unfold posB at h;simp only[aF]at h;rw[Tr.jS]at e;split at e
   .rename_i hi
    subst hi;rw[e]at h;exact h.2.1
   .split at e
    .have:=qJ h.1 e
     rw[show 2*(i / 2)+1=i by omega]at this;exact this
    .have:=qJ h.2.2 e
     rw[show 2*(i / 2 - 1)+2=i by omega]at this;exact this
theorem Vp(c:h.nx<=h2.nx)(f:reach h2.tr 100000 ids .e=h.tr)(hp:posB (λi=>Nat.blt i h.nx) h.tr=true)(g:jG h.nx h.tr=true)(d:h2.df=h.df)(top:Nat.ble h2.nx OLD=true):Moves (λi=>i) h.nx h2 h:=by
 refine⟨aj _,c,aJ top,d.symm,λ_ _=>rfl,λi a b=>aX b (by omega),λ_ _ _ _ e=>e,λi o e _=>⟨?_,?_⟩,g⟩
 .have:=qJ hp e
  exact aJ this
 .rw[AO.jI]
  rw[← f]at e;exact uf (t:=h2.tr) 100000 ids .e (λi o e=>by rw[Tr.fO]at e;cases e) i o e
theorem DoesC.drop(C:DoesC P E g args h v h2)(ids:List Nat)(c:reach h2.tr 100000 ids .e=h.tr)(hp:posB (λi=>Nat.blt i h.nx) h.tr=true)(b:jG h.nx h.tr=true)(a:h2.df=h.df)(top:Nat.ble h2.nx OLD=true)(d:AV.fG h.nx args=true)(f:v.low h.nx=true):DoesC P E g args h v h:=
 DoesC.move (ρ:=λi=>i) (by rw[AV.jI];exact C) (Vp C.1 c hp b a top) d b (λi o e _=>aJ (qJ hp e)) f
end
section
open Go.Conc (G)
variable{n n':Nat}{ι ι':Nm}
noncomputable def Env.wo(E:Env)(old:Nat->Nat->Option AV):Env:={ E with old:=old,peek:=true }
structure Fz(K K':Ctx):Prop where
 P:K'.P=K.P
 fz:∀b,K.fz b->K'.fz b
 own:∀b,K'.own b->K.own b
 new:∀b,K'.fz b->K.fz b∨K.own b
 heap:∀b,K.fz b->K'.W0.heap[b]? =K.W0.heap[b]?
 os:K'.W0.os=K.W0.os
 tape:K'.W0.tape=K.W0.tape
 output:K'.W0.output=K.W0.output
 peek:K'.peek->K.peek
theorem Fz.refl(K:Ctx):Fz K K:=⟨rfl,λ_ h=>h,λ_ h=>h,λ_ h=> .inl h,λ_ _=>rfl,rfl,rfl,rfl,λh=>h⟩
theorem Fz.trans{K c d:Ctx}(a:Fz K c)(b:Fz c d):Fz K d:=
 ⟨b.P.trans a.P,λx h=>b.fz x (a.fz x h),λx h=>a.own x (b.own x h),λx h=>(b.new x h).elim (a.new x) (λh=> .inr (a.own x h)),
  λx h=>(b.heap x (a.fz x h)).trans (a.heap x h),b.os.trans a.os,b.tape.trans a.tape,b.output.trans a.output,λh=>a.peek (b.peek h)⟩
section
variable{P:Program}{X:Bool}{K Y:Ctx}{w Z W:World}
theorem kX.fz(s:Fz K Y)(h:kX K w Z):kX Y w Z:=by
 refine⟨h.size,λb a c=>h.own b (λe=>a (s.fz b e)) (s.own b c),λb a=>?_,h.os,h.tape,h.output⟩;by_cases d:K.fz b
 .exact h.old b d
 .exact h.own b d ((s.new b a).resolve_left d)
theorem zM.fz(s:Fz K Y){n:Nat}{e:Event}(h:zM Y n e):zM K n e:=by
 obtain⟨g,wr,j⟩:=e;have key:∀b,¬Y.fz b∧Y.own b->¬K.fz b∧K.own b:=λb c=>⟨λd=>c.1 (s.fz b d),s.own b c.2⟩;cases g with
 |cell a=>
  refine⟨?_,h.2⟩;rcases h.1 with h1|⟨h1,h2,i⟩
  .exact .inl (key _ h1)
  .by_cases c:K.fz a.block
   .exact .inr ⟨s.peek h1,c,i⟩
   .exact .inl ⟨c,(s.new _ h2).resolve_left c⟩
 |obj r=>exact⟨λd=>h.1 (s.fz _ d),s.own _ h.2.1,h.2.2⟩
 |mark m=>cases m<;>first|exact⟨λd=>h.1 (s.fz _ d),s.own _ h.2.1,h.2.2⟩|exact h
 |output=>exact h
 |goroutines=>exact h
theorem iG.fz(s:Fz K Y){es:Array Event}(h:iG Y w W es):iG K w W es:=
 ⟨h.size,λb d g=>h.kept b d λ⟨a,c⟩=>g ⟨λi=>a (s.fz b i),s.own b c⟩,λe j=>(h.evs e j).imp (zM.fz s) id,h.os,h.tape,h.output⟩
theorem Walk.fz{Stop:Nat->Goroutine->World->Prop}(s:Fz K Y){d:Nat}{g:Goroutine}(h:Walk P X Y Stop d g w):Walk P X K Stop d g w:=by
 induction h with
 |stop h=>exact .stop λZ hr=>h Z (hr.fz s)
 |step g' W es h1 h2 _ a=>
  exact .step g' W es h1 (λZ hr=>⟨(h2 Z (hr.fz s)).1,(h2 Z (hr.fz s)).2.fz s⟩) (λZ hr=>a Z (hr.fz s))
end
abbrev Old:=Nat->Nat->Option AV
def Old.le(a b:Old):Prop:=∀x o v,a x o=some v->b x o=some v
theorem Old.le_refl(a:Old):Old.le a a:=λ_ _ _ h=>h
theorem Old.le_trans{a b c:Old}(h:Old.le a b)(h':Old.le b c):Old.le a c:=λx o v e=>h' x o v (h x o v e)
def AtZ(P:Program)(E:Env)(old:Old)(K:Ctx)(ι:Nm)(nx:Nat)(x:AX)(cs:List Frame)(R:Old->AF->AH->Prop):Nat->Goroutine->World->Prop:=λd g w=>
 ∃K' ι' old' f' h' a,g=G a cs∧Fz K K'∧Of K' P (E.wo old')∧Old.le old old'∧R old' f' h'∧f'.x=x∧Grow ι ι' nx h'.nx∧Sat K' ι' h' w∧RF ι' f' a∧d=h'.df
def jo(P:Program)(E:Env)(old:Old)(f:AF)(h:AH)(R:Old->AF->AH->Prop):Prop:=
 ∀(K:Ctx) (ι:Nm) (w:World) (fr:Frame) (cs:List Frame),Of K P (E.wo old)->Sat K ι h w->RF ι f fr->Free ι h.nx OLD->
  Walk P true K (AtZ P E old K ι h.nx f.x cs R) h.df (G fr cs) w
section
variable{P:Program}{E:Env}{Z X:Old}{f f':AF}{h Y W:AH}{R R':Old->AF->AH->Prop}
theorem jo.here(H:R Z f h):jo P E Z f h R:=λK ι w fr cs a S b _=>
 .stop λw₁ hr=>⟨K,ι,Z,f,h,fr,rfl,Fz.refl K,a,Old.le_refl _,H,rfl,Grow.refl _ _,S.rely hr,b,rfl⟩
theorem Grow.Tq(g:Grow ι ι' n n')(c:Free ι n OLD):Free ι' n' OLD:=λi a b=>by
 rw[g.same i (.inr a)];exact c i (by have:=g.le;omega) b
theorem jo.of(A:DoesS P (E.wo Z) f h f' Y)(m:Y.nx<=OLD)(B:f'.x=f.x->h.nx<=Y.nx->jo P E Z f' Y R):jo P E Z f h R:=λK ι w fr cs j S n k=>by
 refine(A.2.2 K ι w fr cs j S n (k.sub (aj _) m)).bind ?_
 rintro d g w' ⟨ι',b,rfl,l,o,R1,rfl⟩
 refine(B A.2.1 A.1 K ι' w' b cs j o R1 (l.Tq k)).mono ?_
 rintro d g p ⟨q,c,a,r,W,e,rfl,s,t,c2,r2,i,g2,u,v,rfl⟩
 exact⟨q,c,a,r,W,e,rfl,s,t,c2,r2,i.trans A.2.1,l.trans g2,u,v,rfl⟩
end
end
section
open Go.Conc (G)
variable{K:Ctx}{g:FuncId}{w:World}{ι:Nm}
abbrev eH:AH:=⟨.e,0,0⟩
theorem Sat.bare{h:AH}(S:Sat K ι h w):Sat K dR eH w:=
 ⟨λi o e=>(by rw[show eH.tr.get i=none from Tr.fO i]at e;cases e),λi j o a p q e=>(by rw[show eH.tr.get i=none from Tr.fO i]at e;cases e),
  S.lo,S.bs,S.old,S.os,S.tape,S.output,λ_ _ _ h=>h⟩
theorem RV.vC(b:Ext dR ι){a:AV}{v:Value}(c:a.low 0=true)(h:RV ι a v):RV dR a v:=
 RV.iY (Bl b) c (by rw[AV.jI];exact h)
theorem dS.vC(a:Ext dR ι){l:List AV}{vs:List Value}(b:AV.fG 0 l=true)(h:dS ι l vs):dS dR l vs:=
 dS.iY (Bl a) b (by rw[AV.qw];exact h)
def CO(P:Program)(E:Env)(old:Old)(h:AH)(v:AV)(Q:Old->AV->Prop):Prop:=
 ∀(K:Ctx) (ι:Nm) (w:World) (u:Value),Of K P (E.wo old)->Sat K ι h w->RV ι v u->
  ∃b a c,Fz K b∧Of b P (E.wo a)∧Old.le old a∧Q a c∧Sat b dR eH w∧RV dR c u
section
variable{P:Program}{E:Env}{Z:Old}{h:AH}{v:AV}{Q:Old->AV->Prop}
theorem CO.low(b:v.low 0=true)(c:Q Z v):CO P E Z h v Q:=λK ι w u a S R=>
 ⟨K,Z,v,Fz.refl K,a,Old.le_refl _,c,S.bare,RV.vC (S.kV (a.pk rfl)) b R⟩
end
def AtV(P:Program)(E:Env)(old:Old)(K:Ctx)(W:World)(c:Frame)(e:List Frame)(Q:Old->AV->Prop):Nat->Goroutine->World->Prop:=λd g w=>
 ∃i a v u,g=G (back .normal c u) e∧Fz K i∧Of i P (E.wo a)∧Old.le old a∧Q a v∧RV dR v u∧Sat i dR eH w∧d=0∧
  W.heap.size<=w.heap.size∧∀b,b<W.heap.size->¬K.fz b->K.own b->i.own b∧¬i.fz b∧w.heap[b]? =W.heap[b]?
def jV(P:Program)(E:Env)(old:Old)(g:FuncId)(args:List AV)(Q:Old->AV->Prop):Prop:=
 ∀(K:Ctx) (w:World) (vs:Array Value) (c:Frame) (a:List Frame),Of K P (E.wo old)->Sat K dR eH w->dS dR args vs.toList->
  Walk P true K (AtV P E old K w c a Q) 0 (G (Frame.enter P g vs .normal) (c::a)) w
section
variable{P:Program}{E:Env}{Z:Old}{f f':AF}{h h1:AH}{Q:Old->AV->Prop}{R:Old->AF->AH->Prop}
theorem jV.ofD{args:List AV}{v:AV}{F:AH}(D:DoesC P (E.wo Z) g args eH v F)(G:F.nx<=OLD)(H:F.df=0)(s:CO P E Z F v Q):jV P E Z g args Q:=by
 intro K w vs c k I S O;let t:Ctx:={ P:=K.P,W0:=K.W0,fz:=K.fz,lo:=w.heap.size,own:=λb=>K.own b∧w.heap.size<=b,nZ:=λb a=>⟨K.nZ b (aS S.lo a),a⟩,peek:=K.peek };have x:Sub t K:=⟨rfl,rfl,rfl,λ_ h=>h.1,λh=>h⟩;have T:Sat t dR eH w:=⟨λi o e=>(by rw[show eH.tr.get i=none from Tr.fO i]at e;cases e),S.bare.inj,aj _,S.bs,S.old,S.os,S.tape,S.output,λ_ _ _ h=>h⟩;have y:Of t P (E.wo Z):=⟨I.P,I.mem,I.pk⟩;have m:Free dR 0 OLD:=λi _ b=>by unfold dR;rw[ah (by omega)]
 have U:=D.2 t dR w vs c k y T O (λz=>by cases z) (m.sub (aj _) G);refine(U.frame x (Kept.refl _ _ _) (Stop:=AtV P E Z K w c k Q) ?_)
 rintro d V J A ⟨L,u,rfl,g2,W,X,rfl⟩
 obtain⟨n,B,v2,z2,M,l2,Y,r,N⟩:=s t L J u y W X;let K3:Ctx:={ P:=n.P,W0:=n.W0,fz:=n.fz,lo:=n.lo,own:=λb=>n.own b∨(K.own b∧b<w.heap.size),nZ:=λb a=> .inl (n.nZ b a),peek:=n.peek };refine⟨K3,B,v2,u,rfl,⟨z2.P,z2.fz,λb a=>a.elim (λa=>(z2.own b a).1) (·.1),λb a=>(z2.new b a).imp (λh=>h) (·.1),z2.heap,z2.os,z2.tape,z2.output,z2.peek⟩,⟨M.P,M.mem,M.pk⟩,l2,Y,N,
  ⟨λi o e=>(by rw[show eH.tr.get i=none from Tr.fO i]at e;cases e),λi j o o' p q e=>(by rw[show eH.tr.get i=none from Tr.fO i]at e;cases e),r.lo,r.bs,r.old,r.os,r.tape,r.output,λ_ _ _ h=>h⟩,H,A.size,λb a C l=>⟨.inr ⟨l,a⟩,λz=>?_,A.same b a C l λz=>aX z.2 (by omega)⟩⟩
 rcases z2.new b z with h'|h'
 .exact C h'
 .exact aX h'.2 (by omega)
end
end
section
open Go.Conc (G)
variable{g:FuncId}
section
variable{P:Program}{E:Env}{Z:Old}{f X:AF}{h Y:AH}{Q:Old->AV->Prop}{R:Old->AF->AH->Prop}
theorem jo.abj(F:Fits P (E.wo Z))(FF:eU P (E.wo Z)){d:Option Tmp}{args:List AV}(e:iZ (E.wo Z) f h=some (.call X d g args Y))(n:AV.fG 0 args=true)(r:Y.df=0)(V:Y.nx<=OLD)
 (C:jV P E Z g args Q)(B:∀a v,Old.le Z a->Q a v->jo P E a (yJ (X,d) v) Y R):jo P E Z f h R:=by
 have hu:h.nx<=Y.nx:=qo e;have hx:X.x=f.x:=yI e;intro K ι w fr cs G S RR N;refine Walk.of rfl λs b=>?_;have t:=S.rely b;have c:yg P true K ι h s fr cs _:=step_ok G F FF t RR e;obtain⟨ι',j,vs,w',es,k1,O,D,k4,⟨k5,k5'⟩,k6,k7⟩:=c (N.sub (aj _) V);refine⟨_,w',es,k1,k6,?_⟩;rw[k7,r];have H:=G.pk rfl;have I:=D.kV H;refine(C K w' vs j cs G D.bare (dS.vC I n k4)).bind ?_
 rintro d' g' y ⟨T,a,v,u,rfl,z,p',l,q,rv,m,rfl,hsz,k⟩
 have SK:Sat T ι' Y y:=by
  refine⟨λi o e hl=>?_,D.inj,m.lo,m.bs,m.old,m.os,m.tape,m.output,λ_=>I⟩;obtain⟨p,ob,e1,e2,e3,U,e5⟩:=D.objs i o e hl;obtain⟨m1,m2,m3⟩:=k p.1 (lt_of_heap U) e2 e3;exact⟨p,ob,e1,m2,m1,m3.trans U,by rw[z.P];exact e5⟩
 have RK:RF ι' (yJ (X,d) v) (j.finish u):=k5 ι' v u (Ext.refl _) (rv.mono I);have W:=(B a v l q T ι' y (j.finish u) cs p' SK RK (O.Tq N)).fz z;rw[r]at W;refine W.mono ?_
 rintro d g w3 ⟨K2,J,A,f2,h2,L,rfl,a2,b2,c2,r2,M,g2,S2,R2,rfl⟩
 exact⟨K2,J,A,f2,h2,L,rfl,z.trans a2,b2,Old.le_trans l c2,r2,M.trans hx,O.trans g2,S2,R2,rfl⟩
end
end
section
open Go.Conc
open Go.Conc.Lib (WgLib WgLink)
section
variable{P:Program}{I:pz}{W:World}{Z:Nat}
def Last(P:Program)(E:Env)(v:AV):Old->AF->AH->Prop:=λa f' h'=>
 (∃b,iZ (E.wo a) f' h'=some (.ret v b))∧f'.ret=true∧f'.ds=[]∧f'.x.deferred=false∧h'.df=0∧P.inits.idxOf? f'.x.fn=none
theorem acX{E:Env}(F:∀old,Fits P (E.wo old))(FF:∀old,eU P (E.wo old)){old:Old}{M:OS}{i:Array Goroutine}{w0:World}{j:Option (Nat×Nat)}{t0:Trace}(HM:V3 P (E.wo old) W Z [] M i w0 j t0)(hk:M.k=[]){v:AV}(A:jo P E old M.f M.h (Last P E v))
 {Post:Value->World->Prop}(r:∀u w,(∃ι,RV ι v u)->Z<=w.heap.size->(∀b,b<Z->w.heap[b]? =W.heap[b]?)->w.os=W.os->w.tape=W.tape->w.output=W.output->Post u w):
 ∃O g o w' Q,runNT P (O+1) (crowd i w0 j) t0=(.ended o w',Q)∧runN P O (crowd i w0 j)= .next g∧step P g= .ended o w'∧Conc.Good P Post g o w' Q:=by
 obtain⟨V,Shun,a,q,J,l,X,Y,s,⟨ι0,fr0,frs,rfl,hB,R0,T,S0,_,_⟩,hL,U⟩:=HM;rw[hk]at T;have T:frs=[]:=T;subst T;obtain⟨N,gs1,w1,sl1,t1,m,a1,d1,q1,hN1,s,⟨K,ι,p,f1,h1,fr,rfl,z,hKP,hl,⟨⟨h2,hr⟩,L,hds,hd,hdf,hin⟩,hx,hg,S,R,rfl⟩,hL,U⟩:=
  yV Y (A V ι0 w0 fr0 [] J S0 R0 (hB.free (aj _))) w0 (kX.refl w0) i j t0 q s hL U
 rw[hdf]at U;have t:fr.kind= .normal:=by rw[R.kind,hd];rfl
 obtain⟨O,g,o,w',Q,e1,e2,e3,e4⟩:=beside_ends (P:=P) (Shun:=Shun) (B:=w1.heap.size) (D:=λ_ _ _=>False) (Post:=Post) (sl:=sl1) (n:=0) (λ_ _ _ h=>h.elim) s hL U.to (λw₂ hw=>by
  obtain⟨d,rfl⟩:=hw;have c:Sat K ι h1 (w1.at d):=S.rely (kX.drawn w1 d);obtain⟨u,es,g1,g2,G⟩:=VF (F p) (FF p) hKP c R hr L hds;have y:∀b,b<Z->V.fz b:=λb C=>by rw[X];exact C
  have hE:Post u (w1.at d):=r _ _ ⟨ι,g2⟩ (qF λhlt=>jL _ (c.bs _ (z.fz _ (y _ hlt)))) (λb C=>(c.old b (z.fz b (y b C))).trans ((z.heap b (y b C)).trans (by rw[l])))
   (by rw[c.os,z.os,l]) (by rw[c.tape,z.tape,l]) (by rw[c.output,z.output,l])
  have G:∀e∈es,zM V (w1.at d).heap.size e:=λe H=>zM.fz z (G e H);refine⟨rfl,u,es,?_,λe H=>⟨λx hx hs=>?_,(G e H).still.1,(G e H).still.2,F5 (.inl (G e H))⟩,hE⟩
  .rw[g1]
   unfold doReturn;simp only[t,R.fn,hin];simp[GStep.after]
  .obtain⟨b,C,hb1,_⟩:=zx (.inl (G e H)) hx
   exact aX hb1 λh=>h.elim (Y _ b hs C).1 (Y _ b hs C).2)
 refine⟨N+O,g,o,w',Q,?_,?_,e3,e4⟩
 .rw[oV,runNT_add,m];exact e1
 .rw[runN_add,← runNT_fst P _ _ t0,m];exact e2
theorem the_run3{E:Env}(X:xZ P E I)(V:∀old,xZ P (E.wo old) I)(r:∀w,wM (E.at w) I=true){L:WgLink}(H:WgLib P L){out:List FuncId}{fid:FuncId}{l:List AV}(Y:∀b o,E.old b o=none){f0 s:AF}{h1:AH}(hf0:jJ E fid l false=some f0)
 (A:DoesS P E f0 F7 s h1)(D:h1.df=0)(hn1:h1.nx<=OLD)(ht:JV s.tm=true)(hp1:yL s.todo=true)(J:s.ds=[])(hx1:s.x.round=none)(W:World)(args:Array Value)(t:dS dR l args.toList){v:AV}
 (y:∀(w1:World) (n:Nat->Nat),Laid h1 W w1 n->∃(K:OS),Path P (E.at w1) I L.done L.tWg out ⟨s.reb n,[],F7⟩ K∧K.k=[]∧jo P E (uN w1) K.f K.h (Last P E v)):
 ∃M j o w' U,runNT P (M+1) (solo (G (Frame.enter P fid args .normal) []) W) #[]=(.ended o w',U)∧runN P M (solo (G (Frame.enter P fid args .normal) []) W)= .next j∧step P j= .ended o w'∧Conc.Good P (Ends W v) j o w' U:=by
 have hK0:Of (now P W) P E:=⟨rfl,λb o a e=>(by rw[Y]at e;cases e),λ_=>trivial⟩;have W1:=A.2.2 (now P W) dR W (Frame.enter P fid args .normal) [] hK0 (EY P (λ_ _ h=>h) W) (lV X.FF hf0 t rfl) (λi _ hi=>by unfold dR;rw[ah (by omega)]);have hA0:V7 (now P W) (λ_=>False):=λ_ _ h=>h.elim;obtain⟨N,gs1,w1,sl1,t1,q,a1,d1,q1,hN1,h01,⟨ι,fr,rfl,g1,g2,g3,rfl⟩,hL1,O⟩:=yV hA0 W1 W (kX.refl W) #[G (Frame.enter P fid args .normal) []] none #[] (λ_=>0) rfl (leavers_one P _) (mW.of (past_nil.mono (bK _)));rw[D]at O;have Q:Ext dR ι:=g2.kV trivial;let n:Nat->Nat:=λi=>match ι i with |some p=>p.1|none=>0
 have hbl:∀i p,ι i=some p->i<OLD->n i=p.1:=λi p hp _=>by show(match ι i with |some p=>p.1|none=>0)=_;rw[hp]
 have d:Laid h1 W w1 n:=by
  refine⟨qF λhlt=>jL _ (g2.bs _ hlt),g2.old,g2.os,g2.tape,g2.output,λi vs el g z e R o a ha=>?_⟩;obtain⟨p,ob,k1,k2,k3,k4,c,lo,hi,rfl,⟨l1,l2,hc,hv⟩,_⟩:=g2.objs i _ e trivial;obtain⟨u,B,hu2⟩:=hv.get ha;refine⟨u,?_,?_⟩
  .rw[show n i=p.1 from by show(match ι i with |some p=>p.1|none=>0)=_;rw[k1]]
   rw[cell_of k4,← bI,hc,aW]
   .exact B
   .rw[aA]at B;exact B.1
  .exact RV.iY (Bl Q) (R a (bP ha)) (by rw[AV.jI];exact hu2)
 obtain⟨K,C,hk,hZ⟩:=y w1 n d;have hM:V3 P (E.at w1) w1 w1.heap.size [] ⟨s.reb n,[],F7⟩ gs1 w1 sl1 t1:=
  ⟨now P w1,λ_=>False,_,q1,⟨rfl,λb o a e=>⟨trivial,SH E w1 b o a e⟩,λ_=>trivial⟩,rfl,rfl,λ_ _ h=>h.elim,h01,⟨dR,fr,[],rfl,λi _ hi=>(by unfold dR;rw[ah (by omega)]),RF.reb Q hbl g3 ht hp1 J hx1,rfl,EY P (λ_ _ h=>h) w1,rfl,λ_ _ h=>by cases h⟩,hL1,O⟩
 obtain⟨N2,gs2,w2,sl2,t2,m,hM2⟩:=Ho (V (uN w1)) (r w1) H C hM;obtain⟨N3,j,o,w',U,e1,e2,e3,e4⟩:=acX (λold=>(V old).F) (λold=>(V old).FF) hM2 hk hZ (Post:=Ends W v) (λu w hv hsz S hos htp T=>
  ⟨hv,aS d.size hsz,λb hb=>(S b (jv hb d.size)).trans (d.old b hb),hos.trans d.os,htp.trans d.tape,T.trans d.output⟩)
 rw[solo_eq_crowd];refine⟨N+(N2+N3),j,o,w',U,?_,?_,e3,e4⟩
 .rw[oV,oV,runNT_add,q]
  simp only;rw[runNT_add,m];exact e1
 .rw[runN_add,← runNT_fst P _ _ #[],q]
  simp only;rw[runN_add,← runNT_fst P _ _ t1,m];exact e2
end
end
noncomputable def Gl(E:Env)(ts tx:TypeId):Option (TypeId×Nat):=
 match E.tt.get ts,E.tt.get tx with
 |some { d:= .slice e,.. },some b=>
  match E.tt.get e with
  |none=>none
  |some a=>cond (match b.d with | .int _=>true|_=>Nat.beq a.bytes 0||Nat.beq a.size 0||Nat.blt 4096 a.bytes) none (some (e,a.size))
 |_,_=>none
section
variable{E:Env}{h:AH}{e:TypeId}{sz n:Nat}{c:List AV}
noncomputable def MS(E:Env)(h:AH)(e:TypeId)(sz n:Nat)(c:List AV)(s x:AV):Option (AV×AH):=(match s with
 | .aQ=>cond (Nat.beq n 0) (some (.aQ,h)) (some (.sl h.nx 0 n none,h.new (.cells c e true false)))
 | .sl id off len (some cap)=>
   cond (Nat.ble (len+n) cap)
    ((fE h id (off+len*sz) c).map λh'=>(.sl id off (len+n) (some cap),h'))
    (cond (Nat.blt 268435456 (len+cap)) none <| (jA E h id off (len*sz)).map λold=>(.sl h.nx 0 (len+n) none,h.new (.cells (old++c) e true false)))
 | .sl id 0 len none=>
   cond (Nat.blt 268435456 len) none <|
   match h.obj id with
   | .cells vs el true false=>
     cond (Nat.beq el e&&Nat.ble (len*sz) vs.length&&vO c&&(match x with | .sl a _ _ _=> !Nat.beq id a|_=>true))
      (some (.sl h.nx 0 (len+n) none,(h.put id .dead).new (.cells (vs.take (len*sz)++c) e true false))) none
   |_=>none
 |_=>none)
end
theorem adp{s:AV}{n b:Nat}(a:n<=268435456)(d:b<=4096):VJ s n b=false:=by
 have h1:=Nat.mul_le_mul a d;have no:∀x y:Nat,y<=x->Nat.blt x y=false:=λx y h=>by
  cases f:Nat.blt x y with
  |false=>rfl
  |true=>rw[dB]at f;omega
 unfold VJ;split
 .exact no _ _ (by omega)
 .exact no _ _ a
theorem oD{E:Env}{h:AH}{ts tx e:TypeId}{sz:Nat}(a:Gl E ts tx=some (e,sz)){s x:AV}{n:Nat}{c:List AV}(l:Me E h sz x=some (n,c))(m:n<=268435456):
 l7 E h ts tx s x=MS E h e sz n c s x:=by
 unfold Gl at a;unfold l7;split at a
 .rename_i ti q _ _ _ o h1 p
  rw[h1,p];simp only;split at a
  .cases a
  .rename_i b i
   rw[i];simp only;obtain⟨d,r,t,u⟩:=o;cases f:(Nat.beq b.bytes 0||Nat.beq b.size 0||Nat.blt 4096 b.bytes)with
   |true=>cases d<;>simp only[f,bG]at a<;>cases a
   |false=>
    have j:VJ s n b.bytes=false:=adp m (by
     simp only[Bool.or_eq_false_iff]at f;rcases aT 4096 b.bytes with h1|h1
     .rw[← dB,f.2]at h1;cases h1
     .exact h1)
    cases d
    case int=>cases a
    all_goals
     simp only[f,bH]at a ⊢;cases a;rw[l];simp only[j,bH];unfold MS;cases s
     case sl id off len cap=>
      cases cap with
      |some cap=>rfl
      |none=>
       cases off with
       |succ off=>rfl
       |zero=>
        simp only;cases k:Nat.blt 268435456 len with
        |true=>rfl
        |false=>
         simp only[bH];cases v:h.obj id
         case cells vs el g z=>cases g<;>cases z<;>first|rfl|(cases x<;>rfl)
         all_goals rfl
     all_goals rfl
 .cases a
theorem Bd{E:Env}{h:AH}{sz a o n c:Nat}{cells:List AV}(b:E.peek=true)(d:iI E.old a o (n*sz)=some cells):Me E h sz (nP E (.aO (some (a,o)) n c))=some (n,cells):=by
 show Me E h sz (cond E.peek (cond (Nat.beq n 0) .emp (.sl (OLD+a) o n (some c))) .any)=_;rw[b];cases n with
 |zero=>rw[jl]at d;cases d;rfl
 |succ n=>
 show Me E h sz (.sl (OLD+a) o (n+1) (some c))=_;show(jA E h (OLD+a) o ((n+1)*sz)).map (λc=>(n+1,c))=_;unfold jA;rw[bF (show OLD<=OLD+a from gY _ _),bG,nO,d];rfl
theorem VL{E:Env}{h:AH}{ts tx e:TypeId}{sz:Nat}(d:Gl E ts tx=some (e,sz))(a:E.peek=true){id off b o n c:Nat}{cells:List AV}(h0:0<n)(f:n<=268435456)(g:iI E.old b o (n*sz)=some cells)(i:jA E h id off (0*sz)=some []):
 gX E h .append [.sl id off 0 (some 0),.aO (some (b,o)) n c] [ts,tx]=some (.val (.sl h.nx 0 n none) (h.new (.cells cells e true false))):=by
 show(l7 E h ts tx (.sl id off 0 (some 0)) (nP E (.aO (some (b,o)) n c))).map _=_;rw[oD d (Bd a g) f];unfold MS;simp only;rw[show Nat.ble (0+n) 0=false from by
  cases j:Nat.ble (0+n) 0 with
  |false=>rfl
  |true=>have:=aJ j;omega]
 simp only[bH];rw[i,show(0+n)=n from fA n];rfl
theorem Ug{E:Env}{h h':AH}{ts tx e:TypeId}{sz:Nat}(d:Gl E ts tx=some (e,sz))(a:E.peek=true){id off b o c:Nat}(f:fE h id (off+0*sz) []=some h'):
 gX E h .append [.sl id off 0 (some 0),.aO (some (b,o)) 0 c] [ts,tx]=some (.val (.sl id off 0 (some 0)) h'):=by
 show(l7 E h ts tx (.sl id off 0 (some 0)) (nP E (.aO (some (b,o)) 0 c))).map _=_;rw[oD d (Bd (n:=0) (cells:=[]) a (by rw[jl];rfl)) (by omega)];unfold MS;simp only;rw[show Nat.ble (0+0) 0=true from rfl];simp only[bG];rw[f];rfl
theorem Aw{E:Env}{h:AH}{ts tx e:TypeId}{sz:Nat}(d:Gl E ts tx=some (e,sz)){id len id2 off2:Nat}{cc:Option Nat}{vs cs:List AV}(f:h.obj id= .cells vs e true false)(a:vs.length=len*sz)(k:len<=268435456)(g:jA E h id2 off2 (1*sz)=some cs)(i:vO cs=true)(b:Nat.beq id id2=false):
 gX E h .append [.sl id 0 len none,.sl id2 off2 1 cc] [ts,tx]=some (.val (.sl h.nx 0 (len+1) none) ((h.put id .dead).new (.cells (vs++cs) e true false))):=by
 show(l7 E h ts tx (.sl id 0 len none) (.sl id2 off2 1 cc)).map _=_;rw[oD d (n:=1) (c:=cs) (by show(jA E h id2 off2 (1*sz)).map (λc=>(1,c))=_;rw[g];rfl) (by omega)];unfold MS;simp only;rw[show Nat.blt 268435456 len=false from by
  cases j:Nat.blt 268435456 len with
  |false=>rfl
  |true=>simp[Nat.blt]at j;omega]
 simp only[bH];rw[f];simp only;rw[show Nat.beq e e=true from Nat.beq_refl e,show Nat.ble (len*sz) vs.length=true from bF (by omega),i,b,← a,List.take_length];rfl
section
open Go.Conc (G)
variable{g:FuncId}
def AtR(P:Program)(E:Env)(old:Old)(K:Ctx)(c:Frame)(b:List Frame)(Q:Old->AV->Prop):Nat->Goroutine->World->Prop:=λd g w=>
 ∃e a v u,g=G (back .normal c u) b∧Fz K e∧Of e P (E.wo a)∧Old.le old a∧Q a v∧RV dR v u∧Sat e dR eH w∧d=0
def fU(P:Program)(E:Env)(old:Old)(f:AF)(h:AH)(Q:Old->AV->Prop):Prop:=
 ∀(K:Ctx) (ι:Nm) (w:World) (fr c:Frame) (a:List Frame),Of K P (E.wo old)->Sat K ι h w->RF ι f fr->Free ι h.nx OLD->fr.kind= .normal->
  Walk P true K (AtR P E old K c a Q) h.df (G fr (c::a)) w
section
variable{P:Program}{E:Env}{Z:Old}{f f':AF}{h Y X:AH}{Q Q':Old->AV->Prop}
theorem AtR.up{K k:Ctx}{i:Old}{c:Frame}{j:List Frame}(z:Fz K k)(l:Old.le Z i){d:Nat}{g:Goroutine}{w:World}(H:AtR P E i k c j Q d g w):AtR P E Z K c j Q d g w:=by
 obtain⟨m,n,v,u,a,b,p,e,q⟩:=H;exact⟨m,n,v,u,a,z.trans b,p,Old.le_trans l e,q⟩
theorem fU.of(A:DoesS P (E.wo Z) f h f' Y)(j:Y.nx<=OLD)(B:fU P E Z f' Y Q):fU P E Z f h Q:=λK ι w fr c a e S R i k=>by
 refine(A.2.2 K ι w fr (c::a) e S R (i.sub (aj _) j)).bind ?_
 rintro d g w' ⟨ι',b,rfl,l,m,R1,rfl⟩
 exact B K ι' w' b c a e m R1 (l.Tq i) ((R.ou R1 A.2.1).trans k)
theorem fU.abj(F:Fits P (E.wo Z))(FF:eU P (E.wo Z)){M:Old->AV->Prop}{d:Option Tmp}{args:List AV}(e:iZ (E.wo Z) f h=some (.call f' d g args Y))(r:AV.fG 0 args=true)(s:Y.df=0)(V:Y.nx<=OLD)
 (C:jV P E Z g args M)(B:∀a v,Old.le Z a->M a v->fU P E a (yJ (f',d) v) Y Q):fU P E Z f h Q:=by
 have hx:f'.x=f.x:=yI e;intro K ι w fr cc b G S N O hk;refine Walk.of rfl λt j=>?_;have y:=S.rely j;have k:yg P true K ι h t fr (cc::b) _:=step_ok G F FF y N e;obtain⟨ι',c,vs,w',es,k1,k2,D,k4,⟨k5,k5'⟩,k6,k7⟩:=k (O.sub (aj _) V);refine⟨_,w',es,k1,k6,?_⟩;rw[k7,s];have I:=G.pk rfl;have J:=D.kV I;refine(C K w' vs c (cc::b) G D.bare (dS.vC J r k4)).bind ?_
 rintro d' g' A ⟨R,a,v,u,rfl,z,p',l,q,rv,n,rfl,hsz,m⟩
 have SK:Sat R ι' Y A:=by
  refine⟨λi o e hl=>?_,D.inj,n.lo,n.bs,n.old,n.os,n.tape,n.output,λ_=>J⟩;obtain⟨p,ob,e1,e2,e3,T,e5⟩:=D.objs i o e hl;obtain⟨m1,m2,m3⟩:=m p.1 (lt_of_heap T) e2 e3;exact⟨p,ob,e1,m2,m1,m3.trans T,by rw[z.P];exact e5⟩
 have U:RF ι' (yJ (f',d) v) (c.finish u):=k5 ι' v u (Ext.refl _) (rv.mono J);have L:(c.finish u).kind= .normal:=(N.ou U (show(yJ (f',d) v).x=f.x from hx)).trans hk;have W:=(B a v l q R ι' A (c.finish u) cc b p' SK U (k2.Tq O) L).fz z;rw[s]at W;exact W.mono λ_ _ _ H=>AtR.up z l H
theorem RF.iY{n:Nat}{ρ:Nat->Nat}{ι ι0:Nm}(b:Az n ρ ι ι0){f:AF}{fr:Frame}(a:f.low n)(R:RF ι (f.ren ρ) fr):RF ι0 f fr:=by
 refine⟨R.fn,RT.iY b a.tm R.tm,rG a.todo R.todo,?_,R.mode,R.kind,?_⟩
 .have:=R.ds
  have e:(f.ren ρ).ds=f.ds:=rfl;rw[e,a.ds]at this;rw[a.ds];exact this
 .have:=R.round
  have e:(f.ren ρ).x=f.x:=rfl;rw[e,a.round]at this;rw[a.round];exact this
theorem fU.ren{ρ:Nat->Nat}{h':AH}(B:fU P E Z f' h' Q)(s:h'.df=h.df)(e:f=f'.ren ρ)(g:f'.low h'.nx)(z:jG h'.nx h'.tr=true)(k:∀i j,i<h'.nx->j<h'.nx->ρ i=ρ j->i=j)
 (d:∀i o,h'.tr.get i=some o->o.live->i<h'.nx∧h.tr.get (ρ i)=some (o.ren ρ))(l:∀i,OLD<=i->ρ i=i):fU P E Z f h Q:=λK ι w fr c m A S R M C=>by
 subst e;let ι0:Nm:=λi=>if i<h'.nx∨OLD<=i then ι (ρ i)else none;have v:Az h'.nx ρ ι ι0:=λi p hi hp=>by show(if i<h'.nx∨OLD<=i then ι (ρ i)else none)=some p;rw[aC hi];exact hp
 have D:Sat K ι0 h' w:=by
  refine⟨λi o e x=>?_,λi j o F p q e1 e2 l1 l2 hp r t=>?_,S.lo,S.bs,S.old,S.os,S.tape,S.output,λu i p hi=>?_⟩
  .obtain⟨Y,X⟩:=d i o e x
   obtain⟨p,ob,e1,e2,G,H,I⟩:=S.objs (ρ i) (o.ren ρ) X (AO.fF.2 x);exact⟨p,ob,by show(if i<h'.nx∨OLD<=i then ι (ρ i)else none)=some p;rw[aC (.inl Y)];exact e1,e2,G,H,RO.iY v (pW z e) I⟩
  .obtain⟨Y,X⟩:=d i o e1 l1
   obtain⟨y,J⟩:=d j F e2 l2;have hp:(if i<h'.nx∨OLD<=i then ι (ρ i)else none)=some p:=hp;have r:(if j<h'.nx∨OLD<=j then ι (ρ j)else none)=some q:=r;rw[aC (.inl Y)]at hp;rw[aC (.inl y)]at r;exact k i j Y y (S.inj (ρ i) (ρ j) _ _ p q X J (AO.fF.2 l1) (AO.fF.2 l2) hp r t)
  .have n:OLD<=i:=by
    unfold dR at hi;rcases aT i OLD with Y|Y
    .rw[ah (by omega)]at hi;cases hi
    .exact Y
   show(if i<h'.nx∨OLD<=i then ι (ρ i)else none)=some p;rw[aC (.inr n),l i n];exact S.kV u i p hi
 have L:RF ι0 f' fr:=RF.iY v g R;have W:=B K ι0 w fr c m A D L (λi a b=>by show(if i<h'.nx∨OLD<=i then ι (ρ i)else none)=none;rw[ah (by omega)]) C;rw[s]at W;exact W
theorem jV.ofR{args:List AV}(FF:eU P (E.wo Z))(H:(jJ (E.wo Z) g args false).isSome=true)(A:fU P E Z (ent (E.wo Z) g args) eH Q):jV P E Z g args Q:=by
 intro K w vs c k z S I;let y:Ctx:={ P:=K.P,W0:=K.W0,fz:=K.fz,lo:=w.heap.size,own:=λb=>K.own b∧w.heap.size<=b,nZ:=λb a=>⟨K.nZ b (aS S.lo a),a⟩,peek:=K.peek };have r:Sub y K:=⟨rfl,rfl,rfl,λ_ h=>h.1,λh=>h⟩;have J:Sat y dR eH w:=⟨λi o e=>(by rw[show eH.tr.get i=none from Tr.fO i]at e;cases e),S.bare.inj,aj _,S.bs,S.old,S.os,S.tape,S.output,λ_ _ _ h=>h⟩;have B:Of y P (E.wo Z):=⟨z.P,z.mem,z.pk⟩;cases C:jJ (E.wo Z) g args false with
 |none=>rw[C]at H;cases H
 |some f0=>
  have s:ent (E.wo Z) g args=f0:=by unfold Ev.ent;rw[C]
  rw[s]at A;have L:=A y dR w (Frame.enter P g vs .normal) c k B J (lV FF C I rfl) (λi _ b=>by unfold dR;rw[ah (by omega)]) rfl;refine(L.frame r (Kept.refl _ _ _) (Stop:=AtV P E Z K w c k Q) ?_)
  rintro d M N t ⟨m,v,v2,u,rfl,z2,D,l2,O,F,n,rfl⟩
  let R:Ctx:={ P:=m.P,W0:=m.W0,fz:=m.fz,lo:=m.lo,own:=λb=>m.own b∨(K.own b∧b<w.heap.size),nZ:=λb a=> .inl (m.nZ b a),peek:=m.peek };refine⟨R,v,v2,u,rfl,⟨z2.P,z2.fz,λb a=>a.elim (λa=>(z2.own b a).1) (·.1),λb a=>(z2.new b a).imp (λh=>h) (·.1),z2.heap,z2.os,z2.tape,z2.output,z2.peek⟩,⟨D.P,D.mem,D.pk⟩,l2,O,F,
   ⟨λi o e=>(by rw[show eH.tr.get i=none from Tr.fO i]at e;cases e),λi j o T p q e=>(by rw[show eH.tr.get i=none from Tr.fO i]at e;cases e),n.lo,n.bs,n.old,n.os,n.tape,n.output,λ_ _ _ h=>h⟩,rfl,t.size,λb a x l=>⟨.inr ⟨l,a⟩,λG=>?_,t.same b a x l λG=>aX G.2 (by omega)⟩⟩
  rcases z2.new b G with h'|h'
  .exact x h'
  .exact aX h'.2 (by omega)
end
end
section
variable{g:FuncId}
def AtCall(P:Program)(E:Env)(l:List UK)(f:AF)(h:AH)(g:FuncId)(args:List AV)(h1:AH):Prop:=
 ∃obs:List Prop,(match yu P E l f h with |some (a,h0,o)=>(match iZ E a h0 with |some (.call _ _ g args h1)=>some (g,args,h1,o)|_=>none)|none=>none)=some (g,args,h1,obs)∧All obs
noncomputable def lu(P:Program)(E:Env)(l:List UK)(f:AF)(h:AH)(v:AV):AF:=
 match yu P E l f h with |some (a,h0,_)=>(match iZ E a h0 with |some (.call f' d _ _ _)=>yJ (f',d) v|_=>f)|none=>f
section
variable{P:Program}{E:Env}{Z:Old}{f:AF}{h Y:AH}{Q:Old->AV->Prop}
theorem fU.yS(F:Fits P (E.wo Z))(FF:eU P (E.wo Z)){l:List UK}{m:Old->AV->Prop}{args:List AV}(A:AtCall P (E.wo Z) l f h g args Y)(c:AV.fG 0 args=true)(j:Y.df=0)(n:Y.nx<=OLD)
 (C:jV P E Z g args m)(B:∀b v,Old.le Z b->m b v->fU P E b (lu P (E.wo Z) l f h v) Y Q):fU P E Z f h Q:=by
 obtain⟨obs,e,H⟩:=A;unfold lu at B;cases hp:yu P (E.wo Z) l f h with
 |none=>rw[hp]at e;cases e
 |some p=>
  obtain⟨q,h0,o⟩:=p;rw[hp]at e B;simp only at e B;cases i:iZ (E.wo Z) q h0 with
  |none=>rw[i]at e;cases e
  |some a=>
   rw[i]at e B;cases a with
   |call f' d g' k r=>
    simp only at e B;cases e;exact fU.of (path_ok F FF l f h hp H) (aS (qo i:h0.nx<=Y.nx) n) (fU.abj F FF i c j n C B)
   |_=>cases e
end
end
section
variable{d n:Nat}{g:FuncId}{o:AO}
section
variable{P:Program}{E:Env}{f Y:AF}{Z:AH}{v:AV}
theorem Dp{t:Tr AO}{Z:AH}(g:Z.df=d)(h:n<=Z.nx)(j:Nat.ble Z.nx OLD=true)(c:∀i o,t.get i=some o->i<n∧Z.tr.get i=some o)(k:jG n t=true):Moves (λi=>i) n Z ⟨t,n,d⟩:=
 ⟨aj _,h,aJ j,g.symm,λ_ _=>rfl,λi a b=>aX b (by show ¬i<n;omega),λ_ _ _ _ e=>e,λi o e _=>⟨(c i o e).1,by rw[AO.jI];exact(c i o e).2⟩,k⟩
theorem RX(t:Tr AV):zk (AV.ren λi=>i) t=t:=Jz AV.jI t
theorem AF.jI(f:AF):f.ren (λi=>i)=f:=by
 obtain⟨x,tm,td,ds,r⟩:=f;unfold AF.ren;simp only[RX]
theorem DoesS.agx(A:DoesS P E f eH Y Z)(b:Z.df=0)(c:Nat.ble Z.nx OLD=true)(d:f.low 0)(a:Y.low 0):DoesS P E f eH Y eH:=
 DoesS.move (ρ:=λi=>i) A (Dp b (bK _) c (λi o e=>by rw[Tr.fO]at e;cases e) rfl) d rfl (λi o e=>by rw[show(eH.tr).get i=none from Tr.fO i]at e;cases e) (AF.jI Y).symm a
theorem rV:∀{i:Nat} {p:AO},(zL o:Tr AO).get i=some p->i=0∧p=o:=by
 intro i p e;have e:(Tr.n .e (some o) .e:Tr AO).get i=some p:=e;rw[Tr.jS]at e;split at e
 .rename_i h;cases e;exact⟨h,rfl⟩
 .split at e<;>(rw[Tr.fO]at e;cases e)
def jD(P:Program)(E:Env)(f:AF)(v:AV):Prop:=∃h,Does P E f eH v h∧h.nx<=OLD∧h.df=0
theorem jD.of{f':AF}(A:DoesS P E f eH f' eH)(B:jD P E f' v):jD P E f v:=by
 obtain⟨h,a,b⟩:=B;exact⟨h,Does.of A a,b⟩
theorem jD.it(A:Does P E f eH v Z)(a:Nat.ble Z.nx OLD=true)(b:Z.df=0):jD P E f v:=⟨Z,A,aJ a,b⟩
theorem DoesC.Zh(FF:eU P E){args:List AV}(d:(jJ E g args false).isSome=true)(A:jD P E (Ev.ent E g args) v)(j:AV.fG 0 args=true)(k:v.low 0=true):DoesC P E g args eH v eH:=by
 obtain⟨h,a,b,c⟩:=A;refine DoesC.move (ρ:=λi=>i) (by rw[AV.jI];exact DoesC.ent FF d a) (Dp c (bK _) ?_ (λi o e=>by rw[Tr.fO]at e;cases e) rfl) j rfl (λi o e=>by rw[show(eH.tr).get i=none from Tr.fO i]at e;cases e) k;exact bF b
def ahm(P:Program)(E:Env)(f:AF)(o:AO)(v:AV)(a:AO):Prop:=∃h,Does P E f ⟨zL o,1,0⟩ v h∧h.nx<=OLD∧h.df=0∧h.tr.get 0=some a
theorem DoesC.ofB(FF:eU P E){args:List AV}{j:AO}(l:(jJ E g args false).isSome=true)(A:ahm P E (Ev.ent E g args) o v j)(m:jG 1 (zL o)=true)(k:jG 1 (zL j)=true)(n:AV.fG 1 args=true)(q:v.low 1=true):DoesC P E g args ⟨zL o,1,0⟩ v ⟨zL j,1,0⟩:=by
 obtain⟨h,a,b,c,d⟩:=A;have r:1<=h.nx:=a.1;refine DoesC.move (ρ:=λi=>i) (by rw[AV.jI];exact DoesC.ent FF l a) (Dp c r (bF b) (λi p e=>by obtain⟨rfl,rfl⟩:=rV e;exact⟨jm,d⟩) k) n m (λi p e _=>by obtain⟨rfl,rfl⟩:=rV e;exact jm) q
end
end
section
theorem jk{E:Env}{t e:TypeId}{z:Nat}(b:E.d t=some (.slice e))(f:(E.tt.get e).map (·.size)=some z){id n:Nat}{c:Option Nat}{j:Int}{x:Nat}(hj:j=(↑x:Int))(h:x<n):
 aZ E t (.sl id 0 n c) (zI j)=some (.ptr id (x*z)):=by
 subst hj;obtain⟨a,g,rfl⟩:=aP.1 f;unfold aZ;rw[b];show(match E.tt.get e with |some a=>cond (decide (0<=(↑x:Int)∧(↑x:Int)<n)) (some (AV.ptr id (0+(↑x:Int).toNat*a.size))) none|none=>none)=_;rw[g];show cond (decide (0<=(↑x:Int)∧(↑x:Int)<n)) _ _=_;rw[aB ⟨by omega,by omega⟩,bZ,fA];rfl
end
section
theorem CU{E:Env}{t:TypeId}{z:Nat}(a:(E.tt.get t).map (·.size)=some z){h h':AH}{id off:Nat}{c:List AV}(b:c.length=z)(d:fE h id off c=some h'):jH E h t (zP id off) (.agg c)=some (.val iw h'):=by
 obtain⟨ti,e,rfl⟩:=aP.1 a;unfold jH;rw[e];show cond (AV.isAny (.agg c)) none (cond (Nat.beq c.length ti.size) ((fE h id off c).map λh'=>OR.val iw h') none)=_;rw[b,Nat.beq_refl,d];rfl
end
section
variable{E:Env}{P:Program}{f f':AF}{g:FuncId}{h h':AH}{v:AV}
structure Ob where
 ps:List Prop
 as:List UK
noncomputable def obP(l:List Ob):List Prop:=l.flatMap (·.ps)
noncomputable def obA(l:List Ob):List UK:=l.flatMap (·.as)
def Gt(l:List Ob):Prop:=All (obP l)
theorem All.cons{p:Prop}{l:List Prop}(h:p)(r:All l):All (p::l):=by
 cases l with
 |nil=>exact h
 |cons q l=>exact⟨h,r⟩
theorem All.append{l a:List Prop}(h:All l)(r:All a):All (l++a):=by
 induction l with
 |nil=>exact r
 |cons p l b=>cases l with
  |nil=>exact All.cons h r
  |cons q l=>exact All.cons h.1 (b h.2)
theorem Gt.cons{o:Ob}{l:List Ob}(h:All o.ps)(r:Gt l):Gt (o::l):=by
 show All ((o::l).flatMap (·.ps));rw[yH];exact h.append r
section
variable{l:List Ob}(n:Nat)
theorem Qe:Gt []:=trivial
theorem Qn:Gt [⟨[],[.n n]⟩]:=trivial
theorem Qb{b c:Bool}(o:b=c)(r:Gt l):Gt (⟨[some true=some true,some (AV.bool b)=some (AV.bool c)],[.n n,.v (.bool c)]⟩::l):=r.cons ⟨rfl,gu (λz=>some (AV.bool z)) o⟩
theorem Qv{x:Option AV}(o:x=some v)(r:Gt l):Gt (⟨[some true=some true,x=some v],[.n n,.v v]⟩::l):=r.cons ⟨rfl,o⟩
theorem Qr(v:AV)(r:Gt l):Gt (⟨[some true=some true,some v=some v],[.n n,.v v]⟩::l):=r.cons ⟨rfl,rfl⟩
theorem Ql{x:Option OR}(o:x=some (.val v h))(r:Gt l):Gt (⟨[some true=some true,(none:Option AV)=none,x=some (.val v h)],[.n n,.l v h]⟩::l):=r.cons ⟨rfl,rfl,o⟩
theorem Qk{a:List AV}(o:DoesC P E g a h v h')(r:Gt l):Gt (⟨[DoesC P E g a h v h'],[.n n,.k v h']⟩::l):=r.cons o
theorem Qd(d:List DA)(r:Gt l):Gt (⟨[],[.n n,.d d]⟩::l):=r.cons trivial
theorem Qa(a:UK)(r:Gt l):Gt (⟨[],[.n n,a]⟩::l):=r.cons trivial
theorem Qp{p:Prop}(o:p)(r:Gt l):Gt (⟨[p],[]⟩::l):=r.cons o
theorem Qq{p:Prop}(o:p)(r:Gt l):Gt (⟨[some true=some true,p],[]⟩::l):=r.cons ⟨rfl,o⟩
theorem Qz(r:Gt l):Gt (⟨[some true=some true,(none:Option AV)=none],[]⟩::l):=r.cons ⟨rfl,rfl⟩
theorem Qs(v:AV)(r:Gt l):Gt (⟨[some v=some v],[]⟩::l):=r.cons rfl
end
theorem qH(F:Fits P E)(FF:eU P E){l:List Ob}(keep:List Nat)(H:Gt l)
 (e:(match yu P E (obA l) f h with |some (a,h1,o)=>some (Xt keep a,h1,o)|none=>none)=some (f',h',obP l)):DoesS P E f h f' h':=W9 F FF (obA l) keep e H
theorem prt(F:Fits P E)(FF:eU P E){l:List Ob}(H:Gt l)
 (e:(match yu P E (obA l) f h with |some (a,h1,o)=>(match iZ E a h1 with |some (.ret v b)=>some (v,b,o)|_=>none)|none=>none)=some (v,h',obP l)):Does P E f h v h':=Rh F FF (obA l) e H
end
section
open Go.Conc (G)
variable{K:Ctx}{cap id:Nat}{ds:List AD}{el:TypeId}{fr:Frame}{h h':AH}{ob:Obj}{td:List AI}{u:Value}{w:World}{ι:Nm}
section
variable{P:Program}{E:Env}{Z:Old}{Q:Old->AV->Prop}
theorem Sat.agf{vs:List AV}{g z:Bool}(v:Of K P (E.wo Z))(S:Sat K ι h w)(D:h.tr.get id=some (.cells vs el g z))(r:∀a∈vs,AV.low 0 a=true)
 (l:∀i o,h'.tr.get i=some o->o.live->i≠id∧h.tr.get i=some o):
 ∃s f p,ι id=some p∧Fz K s∧Of s P (E.wo f)∧Old.le Z f∧(∀o a,vs[o]? =some a->f p.1 o=some a)∧Sat s ι h' w:=by
 have m:K.peek:=v.pk rfl;have F:=S.kV m;obtain⟨p,ob,e1,e2,M,G,N⟩:=S.objs id _ D trivial;obtain⟨c,lo,hi,rfl,⟨l1,l2,O,R⟩,_⟩:=N;have y:p.1<w.heap.size:=lt_of_heap G;let f:Old:=λb o=>if b=p.1 then vs[o]? else Z b o;let s:Ctx:={ P:=K.P,W0:=w,fz:=λb=>K.fz b∨b=p.1,lo:=w.heap.size,own:=λb=>K.own b∧b≠p.1,nZ:=λb d=>⟨K.nZ b (aS S.lo d),by omega⟩,peek:=K.peek };have t:Old.le Z f:=by
  intro b o a e;show(if b=p.1 then vs[o]? else Z b o)=some a;by_cases d:b=p.1
  .exfalso
   have:=(v.mem b o a e).2.1;rw[d]at this;exact e2 this
  .rw[ah d];exact e
 refine⟨s,f,p,e1,⟨rfl,λb d=> .inl d,λb d=>d.1,λb d=>d.imp (λd=>d) (λd=>by rw[d];exact M),λb d=>S.old b d,S.os,S.tape,S.output,λhp=>hp⟩,⟨v.P,λb o a e=>?_,λ_=>m⟩,t,λo a e=>by show(if p.1=p.1 then vs[o]? else Z p.1 o)=some a;rw[aC rfl];exact e,?_⟩
 .have e:(if b=p.1 then vs[o]? else Z b o)=some a:=e
  by_cases d:b=p.1
  .rw[aC d]at e
   obtain⟨x,k,n⟩:=R.get e;refine⟨m,.inr d,x,?_,RV.vC F (r a (bP e)) n⟩;show w.cell? ⟨b,o,none⟩=some x;rw[d,cell_of G,← bI,O,aW]
   .exact k
   .rw[aA]at k;exact k.1
  .rw[ah d]at e
   obtain⟨_,H,x,k,n⟩:=v.mem b o a e;refine⟨m,.inl H,x,?_,n⟩;show w.cell? ⟨b,o,none⟩=some x;unfold World.cell? at k ⊢;rw[S.old b H];exact k
 .refine⟨λi o e A=>?_,λi j o I p q e1 e2 l1 l2 hp T B=>S.inj i j o I p q (l i o e1 l1).2 (l j I e2 l2).2 l1 l2 hp T B,aj _,λb d=>d.elim (S.bs b) (λd=>by rw[d];exact y),λ_ _=>rfl,rfl,rfl,rfl,λ_=>F⟩
  obtain⟨U,J⟩:=l i o e A;obtain⟨q,ob,L,V,W,X,Y⟩:=S.objs i o J A;have u:q.1≠p.1:=λC=>U (S.inj i id _ _ q p J D A trivial L e1 C);exact⟨q,ob,L,λC=>C.elim V u,⟨W,u⟩,X,Y⟩
theorem RF.slot{x:AX}{tm:Tr AV}{r:Bool}{k:Nat}{a c:AV}(R:RF ι ⟨x,tm,td,ds,r⟩ fr)(d:tm.get k=some a)(h:∀u,RV ι a u->RV ι c u):RF ι ⟨x,tm.set k c,td,ds,r⟩ fr:=by
 refine⟨R.fn,⟨R.tm.1,λt b e=>?_⟩,R.todo,R.ds,R.mode,R.kind,R.round⟩;rcases Tr.uD e with⟨rfl,rfl⟩|⟨h1,f⟩
 .exact h _ (R.tm.2 _ _ d)
 .exact R.tm.2 t b f
theorem fU.agd{x:AX}{tm:Tr AV}{td:List AI}{ds:List AD}{r:Bool}{k id off n:Nat}{cap:Option Nat}{vs:List AV}{el:TypeId}{g z:Bool}{h h':AH}(F:h.tr.get id=some (.cells vs el g z))(l:∀a∈vs,AV.low 0 a=true)
 (G:tm.get k=some (.sl id off n cap))(m:∀i o,h'.tr.get i=some o->o.live->i≠id∧h.tr.get i=some o)(u:h'.nx=h.nx)(v:h'.df=h.df)
 (B:∀(d:Old) (b c:Nat),Old.le Z d->n<=c->(∀o a,vs[o]? =some a->d b o=some a)->fU P E d ⟨x,tm.set k (.aO (some (b,off)) n c),td,ds,r⟩ h' Q):
 fU P E Z ⟨x,tm,td,ds,r⟩ h Q:=λK ι w fr cc q I S R J y=>by
 obtain⟨L,d,p,e1,D,A,s,C,M⟩:=Sat.agf I S F l m;have N:=R.tm.2 k _ G;obtain⟨V,h1,f,e,j,_⟩:=kE N;rw[e1]at h1;cases h1;have R1:RF ι ⟨x,tm.set k (.aO (some (p.1,off)) n f),td,ds,r⟩ fr:=by
  refine⟨R.fn,⟨R.tm.1,λt b O=>?_⟩,R.todo,R.ds,R.mode,R.kind,R.round⟩;rcases Tr.uD O with⟨rfl,rfl⟩|⟨h1,T⟩
  .rw[e];unfold RV;exact⟨none,rfl,j,λU=>(by cases U),λ_=>rfl⟩
  .exact R.tm.2 t b T
 have W:=(B d p.1 f s j C L ι w fr cc q A M R1 (by rw[u];exact J) y).fz D;rw[v]at W;exact W.mono λ_ _ _ H=>AtR.up D s H
theorem fU.ahF{x:AX}{tm:Tr AV}{td:List AI}{ds:List AD}{r:Bool}{k id off:Nat}{vs:List AV}{el:TypeId}{g z:Bool}{h h':AH}(D:h.tr.get id=some (.cells vs el g z))(d:∀a∈vs,AV.low 0 a=true)
 (F:tm.get k=some (.ptr id off))(e:∀i o,h'.tr.get i=some o->o.live->i≠id∧h.tr.get i=some o)(l:h'.nx=h.nx)(m:h'.df=h.df)
 (B:∀(c:Old) (b:Nat),Old.le Z c->(∀o a,vs[o]? =some a->c b o=some a)->fU P E c ⟨x,tm.set k (.ptr (OLD+b) off),td,ds,r⟩ h' Q):
 fU P E Z ⟨x,tm,td,ds,r⟩ h Q:=λK ι w fr cc f v S R G n=>by
 obtain⟨I,c,p,e1,y,s,j,t,J⟩:=Sat.agf v S D d e;have L:=S.kV (v.pk rfl);have R1:RF ι ⟨x,tm.set k (.ptr (OLD+p.1) off),td,ds,r⟩ fr:=R.slot F λu A=>by
  unfold RV at A ⊢;obtain⟨q,C,rfl⟩:=A;rw[e1]at C;cases C;exact⟨_,L _ _ (Dk _),rfl⟩
 have W:=(B c p.1 j t I ι w fr cc f s J R1 (by rw[l];exact G) n).fz y;rw[m]at W;exact W.mono λ_ _ _ H=>AtR.up y j H
theorem RO.Vd{P:Program}{ws a:List AV}{g z:Bool}(h:RO P ι cap (.cells ws el g z) ob)(d:a.length=ws.length)(e:∀b,dS ι ws b->dS ι a b):RO P ι cap (.cells a el g z) ob:=by
 obtain⟨c,lo,hi,rfl,⟨l1,l2,f,h1⟩,i,j,k⟩:=h;exact⟨c,lo,hi,rfl,⟨l1,l2,f,e _ h1⟩,λl=>by rw[d];exact i l,j,k⟩
def ahw:AV->AV| .aQ=> .aO none 0 0|v=>v
theorem acF{a:AV}(h:RV ι a u):RV ι (ahw a) u:=by
 cases a<;>first|exact h|(unfold RV at h;show RV ι (.aO none 0 0) u;unfold RV;exact⟨none,h,aj _,λ_=>⟨rfl,rfl⟩,λ_=>rfl⟩)
theorem fU.low{f:AF}{h:AH}{n:Nat}(g:n<=h.nx)(a:f.low n)(b:jG n h.tr=true)(c:∀i o,h.tr.get i=some o->o.live->i<n)(B:fU P E Z f ⟨h.tr,n,h.df⟩ Q):fU P E Z f h Q:=
 fU.ren (ρ:=λi=>i) B rfl (AF.jI f).symm a b (λi j _ _ e=>e) (λi o e d=>⟨c i o e d,by rw[AO.jI];exact e⟩) (λi _=>rfl)
end
end
section
open Go.Conc (G)
variable{E:Env}{P:Program}{args:List AV}{g:FuncId}{h h2:AH}{n:Nat}{o:AO}{v v':AV}
theorem dF(h:Nat.ble n OLD=true):n<=OLD:=aJ h
def AQ(k:Nat)(i:Nat):Nat:=cond (Nat.beq i 0) k i
def Mc(k:Nat):Nat->Nat:=λi=>bif Nat.ble OLD i then i else i+k
theorem Yy{k:Nat}(b:k<h2.nx)(top:Nat.ble h2.nx OLD=true)(a:h2.df=0)(c:h2.tr.get k=some o)(hr:o.ren (AQ k)=o)(d:jG 1 (zL o)=true):Moves (AQ k) 0 h2 ⟨zL o,1,0⟩:=by
 refine⟨bK _,by show 1<=h2.nx;omega,aJ top,a.symm,λi hi=>?_,λi _ hi=>?_,λi j hi hj _=>?_,λi q e _=>?_,d⟩
 .have hi:OLD<=i:=by omega
  cases i with
  |zero=>exact aX hi (by decide)
  |succ i=>rfl
 .have hi:i<1:=hi
  obtain rfl:i=0:=by omega
  exact⟨bK _,b⟩
 .have hi:i<1:=hi
  have hj:j<1:=hj;omega
 .obtain⟨rfl,rfl⟩:=rV e
  exact⟨jm,by rw[hr];exact c⟩
theorem DoesC.sel{P:Program}{E:Env}{g:FuncId}{args:List AV}{k:Nat}{o:AO}{v:AV}{a:AH}(C:DoesC P E g args eH (v.ren (AQ k)) a)(c:Nat.blt k a.nx=true)(top:Nat.ble a.nx OLD=true)(b:a.df=0)(d:a.tr.get k=some o)(hr:o.ren (AQ k)=o)(f:jG 1 (zL o)=true)(h:AV.fG 0 args=true)(j:v.low 1=true):DoesC P E g args eH v ⟨zL o,1,0⟩:=
 DoesC.move C (Yy (by rw[← dB];exact c) top b d hr f) h rfl (λi o e _=>by rw[show(eH.tr).get i=none from Tr.fO i]at e;cases e) j
theorem DoesC.PG(C:DoesC P E g args eH v ⟨zL o,1,0⟩)(d:AV.fG 0 args=true)(hr:AV.jM (Mc h.nx) args=args)(f:o.ren (Mc h.nx)=o)(a:h.df=0)(b:Nat.blt h.nx OLD=true)(k:∀i q,h.tr.get i=some q->q.live->i<h.nx)(l:v.ren (Mc h.nx)=v'):
 DoesC P E g args h v' (h.new o):=by
 have c:∀(i:Nat) (q:AO),(eH.tr).get i=some q->False:=λi q e=>by rw[show(eH.tr).get i=none from Tr.fO i]at e;cases e
 have b:h.nx<OLD:=by rw[← dB];exact b
 subst l;obtain⟨tr,nx,df⟩:=h;have a:df=0:=a;subst a;have u0:Mc nx 0=nx:=by unfold Mc;rw[show Nat.ble OLD 0=false from rfl];exact fA _
 have L:Zc (Mc nx) eH ⟨zL o,1,0⟩ ⟨tr,nx,0⟩ (AH.new ⟨tr,nx,0⟩ o):=by
  refine⟨bK _,aJ (by rfl),b,λi j h1 m _=>by have:i<1:=h1;have:j<1:=m;omega,λi hi=>aX hi (gV _),λi _ hi=>?_,λi hi=>by unfold Mc;rw[bF hi];rfl,Nat.le_succ _,λi q e _=>(c i q e).elim,λi q e _=>?_,λi q e _=>(c i q e).elim,λi q e n=>?_,rfl,rfl,rfl⟩
  .have hi:i<1:=hi
   obtain rfl:i=0:=by omega
   rw[u0];exact⟨aj _,cZ _⟩
  .obtain⟨rfl,_⟩:=rV e;exact jm
  .have e:(tr.set nx o).get i=some q:=e
   rw[Tr.KN]at e;split at e
   .rename_i hi
    cases e;exact .inl ⟨0,o,rfl,by rw[u0];exact hi,f.symm⟩
   .exact .inr ⟨e,λj q e=>(c j q e).elim⟩
 have:=DoesC.frame C L d;rw[hr]at this;exact this
theorem Hy{E:Env}{h:AH}{t e:TypeId}{z:List AV}{n:Nat}(c:E.d t=some (.slice e))(f:(E.tt.get e).map (λi=>(i.zero,Nat.ble i.bytes 4096))=some (z,true))(l:n<=1048576):
 iy E h t (zI n) (zI n)=some (.val (.sl h.nx 0 n (some n)) (h.new (.cells (rep n z) e false false))):=by
 obtain⟨a,g,b⟩:=aP.1 f;have j:a.zero=z:=(rU b).1;have k:Nat.ble a.bytes 4096=true:=(rU b).2;unfold iy;rw[c];show(match E.tt.get e with |some a=>cond (decide (0<=(↑n:Int)∧(↑n:Int)<=(↑n:Int)∧(↑n:Int)<=1048576)&&Nat.ble a.bytes 4096) (some (OR.val (.sl h.nx 0 (↑n:Int).toNat (some (↑n:Int).toNat)) (h.new (.cells (rep (↑n:Int).toNat a.zero) e false false)))) none|none=>none)=_;rw[g];show cond (decide (0<=(↑n:Int)∧(↑n:Int)<=(↑n:Int)∧(↑n:Int)<=1048576)&&Nat.ble a.bytes 4096) _ none=_;rw[aB (by omega),k,bZ,j];rfl
end
section
theorem GR(c p r:List AV):takeN (p++(c++r)) p.length c.length=some c:=by
 unfold takeN;have e:((p++(c++r)).drop p.length).take c.length=c:=by simp
 show cond (Nat.beq (((p++(c++r)).drop p.length).take c.length).length c.length) (some (((p++(c++r)).drop p.length).take c.length)) none=_;rw[e,Nat.beq_refl];rfl
theorem rF:∀(c a p r:List AV),a.length=c.length->setAt (p++(c++r)) p.length a=p++(a++r)
 |[],[],p,r,_=>rfl
 |v::c,b::a,p,r,h=>by
  have d:=rF c a (p++[b]) r (by simpa using h);show setAt ((p++(v::c++r)).set p.length b) (p.length+1) a=_;rw[show(p++(v::c++r)).set p.length b=(p++[b])++(c++r)by simp[tJ],show p.length+1=(p++[b]).length by simp,d];simp
section
variable{Y:Type}{Z:Y->List AV}{z:Nat}
theorem XM(b:∀a,(Z a).length=z):∀l:List Y,(l.flatMap Z).length=l.length*z
 |[]=>by simp
 |a::l=>by rw[yH,bC,b,XM b l,fB,nX,Nat.one_mul,Nat.add_comm]
end
end
section
section
variable{Z:Type}{Y:Z->List AV}{z:Nat}
end
end
section
variable{E:Env}{t e:TypeId}{z:Nat}
theorem J3(b:E.d t=some (.slice e))(c:(E.tt.get e).map (·.size)=some z){id n:Nat}{k:Int}{x:Nat}(f:k=(↑x:Int))(h0:0<x)(g:x<n):gQ E t (.sl id 0 n none) (some (zI k)) none none=some (.sl id (x*z) (n - x) none):=by
 subst f;obtain⟨a,h,rfl⟩:=aP.1 c;unfold gQ;rw[b];show(match E.tt.get e,(none:Option AV)with
  |some a,none=>zU id 0 a.size n (some (zI ↑x)) none
  |some a,some v=>match oC 0 n v with
   |some m=>rX id 0 a.size n m (some (zI ↑x)) none true
   |none=>none
  |_,_=>none)=_
 rw[h];show(match AU (some (zI (↑x:Int))) n 0 with
  |none=>none
  |some l=>cond (Nat.beq l 0) (some (AV.sl id 0 n none)) (cond (Nat.blt l n) (some (.sl id (0+l*a.size) (n - l) none)) (some .emp)))=_
 have i:AU (some (zI (↑x:Int))) n 0=some x:=by
  show cond (decide ((0:Nat)<=(↑x:Int)∧(↑x:Int)<=n)) (some (↑x:Int).toNat) none=_;rw[aB ⟨by omega,by omega⟩,bZ];rfl
 rw[i];show cond (Nat.beq x 0) _ (cond (Nat.blt x n) _ _)=_;rw[show Nat.beq x 0=false by cases x with |zero=>omega|succ x=>rfl,show Nat.blt x n=true from bF g,fA];rfl
theorem QO(b:E.d t=some (.slice e))(c:(E.tt.get e).map (·.size)=some z){id n:Nat}{k:Int}{x:Nat}(f:k=(↑x:Int))(i:x<=n):gQ E t (.sl id 0 n none) none (some (zI k)) none=some (.sl id 0 x none):=by
 subst f;obtain⟨a,g,rfl⟩:=aP.1 c;unfold gQ;rw[b];show(match E.tt.get e,(none:Option AV)with
  |some a,none=>zU id 0 a.size n none (some (zI ↑x))
  |some a,some v=>match oC 0 n v with
   |some m=>rX id 0 a.size n m none (some (zI ↑x)) true
   |none=>none
  |_,_=>none)=_
 rw[g];have h:Zi (some (zI (↑x:Int))) n n false=some x:=by
  show cond (decide ((0:Nat)<=(↑x:Int)∧(↑x:Int)<=n)) (some (↑x:Int).toNat) none=_;rw[aB ⟨by omega,by omega⟩,bZ];rfl
 show zU id 0 a.size n none (some (zI ↑x))=_;unfold zU;rw[h];rfl
end
section
open Go.Conc (G)
section
variable{P:Program}{E:Env}{f f' g:AF}{h h1 h2 h':AH}{v u:AV}
end
end
section
open Go.Conc (G)
variable{fr:Frame}{ι ι0:Nm}{ρ:Nat->Nat}
theorem RF.JU{n:Nat}{ρ:Nat->Nat}{ι ι0:Nm}(H:Az n ρ ι ι0){f:AF}{fr:Frame}(b:f.low n)(R:RF ι (f.ren ρ) fr):RF ι0 f fr:=by
 refine⟨R.fn,⟨R.tm.1,λt a c=>RV.iY H (rE b.tm c) (R.tm.2 t (a.ren ρ) (by show(zk (AV.ren ρ) f.tm).get t=_;rw[qL,c];rfl))⟩,rG b.todo R.todo,?_,R.mode,R.kind,?_⟩
 .have:=R.ds
  rw[show(f.ren ρ).ds=f.ds from rfl,b.ds]at this;rw[b.ds];exact this
 .have:=R.round
  rw[show(f.ren ρ).x=f.x from rfl,b.round]at this;rw[b.round];exact this
structure AF.plain(f:AF):Prop where
 todo:yL f.todo=true
 ds:f.ds=[]
 round:f.x.round=none
theorem RF.acf(H:UC ρ ι0 ι){f:AF}(a:f.plain)(R:RF ι0 f fr):RF ι (f.ren ρ) fr:=by
 refine⟨R.fn,RT.ren H R.tm,rG a.todo R.todo,?_,R.mode,R.kind,?_⟩
 .have:=R.ds
  rw[a.ds]at this;rw[show(f.ren ρ).ds=f.ds from rfl,a.ds];exact this
 .have:=R.round
  rw[a.round]at this;rw[show(f.ren ρ).x=f.x from rfl,a.round];exact this
theorem DoesS.frame{P:Program}{E:Env}{f f':AF}{h0 d:AH}(C:DoesS P E f h0 f' d){ρ:Nat->Nat}{h h':AH}(L:Zc ρ h0 d h h')(l:f.low h0.nx)(G:f'.plain):
 DoesS P E (f.ren ρ) h (f'.ren ρ) h':=by
 have hx':(f'.ren ρ).x=(f.ren ρ).x:=C.2.1;refine⟨L.le,hx',λK ι w fr cs hP S R hf=>?_⟩;let ι0:Nm:=λi=>if i<h0.nx∨OLD<=i then ι (ρ i)else none;have c:∀i,(i<h0.nx∨OLD<=i)->ι0 i=ι (ρ i):=λi hi=>aC hi;have m:∀i,¬(i<h0.nx∨OLD<=i)->ι0 i=none:=λi hi=>ah hi;have F:Az h0.nx ρ ι ι0:=λi p hi hp=>by rw[c i hi];exact hp
 have hUp:UC ρ ι0 ι:=λi p hi=>by
  by_cases A:i<h0.nx∨OLD<=i
  .rw[c i A]at hi;exact hi
  .rw[m i A]at hi;cases hi
 have SM:vJ K ι (λi o=>h.tr.get i=some o) w:=S.toM λ_ _ h _=>h;let X:Nat->Prop:=λi=>¬∃j n,h0.tr.get j=some n∧n.live∧i=ρ j;let H:=Ctx.less K ι (λi o=>h.tr.get i=some o) X w SM.lo SM.lt;have V:Sub H K:=uQ;have S0:Sat H ι0 h0 w:=by
  refine⟨λi o hi l=>?_,λi j o B p q e1 e2 l1 l2 hp t s=>?_,aj _,S.bs,S.old,S.os,S.tape,S.output,λhk i p hi=>?_⟩
  .have hlt:=L.names i o hi l
   obtain⟨p,ob,e1,e2,y,z,D⟩:=S.objs (ρ i) (o.ren ρ) (L.before i o hi l) (AO.fF.2 l);refine⟨p,ob,by rw[c i (.inl hlt)];exact e1,e2,⟨y,λ⟨j,B,q,hx,hm,G,t,hqp⟩=>?_⟩,z,RO.iY F (pW L.Yz hi) D⟩;have:ρ i=j:=S.inj (ρ i) j _ B p q (L.before i o hi l) hm (AO.fF.2 l) G e1 t hqp.symm;exact hx ⟨i,o,hi,l,this.symm⟩
  .have h1:=L.names i o e1 l1
   have g:=L.names j B e2 l2;rw[c i (.inl h1)]at hp;rw[c j (.inl g)]at t;have:=S.inj (ρ i) (ρ j) _ _ p q (L.before i o e1 l1) (L.before j B e2 l2) (AO.fF.2 l1) (AO.fF.2 l2) hp t s;exact L.inj i j (by have:=L.le0;omega) (by have:=L.le0;omega) this
  .have Y:OLD<=i:=by
    unfold dR at hi;rcases aT i OLD with h1|h1
    .rw[ah (by omega)]at hi;cases hi
    .exact h1
   rw[c i (.inr Y),L.old i Y];exact S.kV hk i p hi
 have hP0:Of H P E:=⟨hP.P,hP.mem,hP.pk⟩;have R0:RF ι0 f fr:=R.JU F l;have hf0:Free ι0 h0.nx d.nx:=λi h1 g=>m i (λhx=>by have:=L.top;omega);have W:=C.2.2 H ι0 w fr cs hP0 S0 R0 hf0;rw[← L.df];refine W.frame V (Kept.refl _ _ _) ?_
 rintro d' g' w' u ⟨r,fr',rfl,hg,I,hv,rfl⟩
 let inv:Nat->Option Nat:=λi=>(List.range d.nx).find? λj=>decide (h0.nx<=j∧ρ j=i);have Z:∀j,h0.nx<=j->j<d.nx->inv (ρ j)=some j:=by
  intro j h1 g;show(List.range d.nx).find? _=some j;cases J:(List.range d.nx).find? (λk=>decide (h0.nx<=k∧ρ k=ρ j))with
  |none=>
   have:=List.find?_eq_none.1 J j (iO.2 g);simp[h1]at this
  |some k=>
   have Q:=List.find?_some J;have h4:=iO.1 (List.mem_of_find?_eq_some J);simp at Q;rw[L.inj k j h4 g Q.2]
 let ι':Nm:=λi=>if h.nx<=i∧i<h'.nx then(match inv i with |some j=>r j|none=>none)else ι i;have e:∀i,¬(h.nx<=i∧i<h'.nx)->ι' i=ι i:=λi hi=>ah hi;have M:∀j,h0.nx<=j->j<d.nx->ι' (ρ j)=r j:=λj h1 g=>by
  show(if h.nx<=ρ j∧ρ j<h'.nx then _ else _)=_;rw[aC (L.new j h1 g),Z j h1 g]
 have N:Ext ι ι':=λi p hi=>by
  by_cases A:h.nx<=i∧i<h'.nx
  .rw[hf i A.1 A.2]at hi;cases hi
  .rw[e i A];exact hi
 have v:UC ρ r ι':=λi p hi=>by
  rcases aT i h0.nx with h1|h1
  .rw[hg.same i (.inl h1),c i (.inl h1)]at hi
   rw[e (ρ i) (by have:=L.low i h1;omega)];exact hi
  .rcases aT i d.nx with g|g
   .rw[M i h1 g];exact hi
   .rw[hg.same i (.inr g)]at hi
    by_cases A:i<h0.nx∨OLD<=i
    .rw[c i A]at hi
     have Q:OLD<=i:=by omega
     rw[L.old i Q]at hi ⊢;rw[e i (by have:=L.top';omega)];exact hi
    .rw[m i A]at hi;cases hi
 have old:∀i o,h.tr.get i=some o->X i->o.live->∃p ob,ι i=some p∧¬K.fz p.1∧K.own p.1∧w'.heap[p.1]? =some ob∧RO K.P ι p.2 o ob∧¬H.own p.1:=by
  intro i o h1 g l;obtain⟨p,ob,e1,e2,y,z,D⟩:=S.objs i o h1 l;have hn:¬H.own p.1:=λhx=>hx.2 ⟨i,o,p,g,h1,l,e1,rfl⟩;exact⟨p,ob,e1,e2,y,(u.same p.1 (lt_of_heap z) e2 y hn).trans z,D,hn⟩
 have new:∀j n,d.tr.get j=some n->n.live->∃p ob,r j=some p∧ι' (ρ j)=some p∧¬K.fz p.1∧H.own p.1∧w'.heap[p.1]? =some ob∧RO K.P ι' p.2 (n.ren ρ) ob:=by
  intro j n h1 l;obtain⟨p,ob,e1,e2,y,z,D⟩:=I.objs j n h1 l;exact⟨p,ob,e1,v j p e1,e2,y,z,RO.ren v D⟩
 have hX:∀i,(∀j n,h0.tr.get j=some n->n.live->i≠ρ j)->X i:=λi hi ⟨j,n,h1,g,Q⟩=>hi j n h1 g Q;refine⟨ι',fr',rfl,⟨L.le,λi hi=>e i (by omega)⟩,⟨λi o hi l=>?_,λi j o B p q e1 e2 l1 l2 hp t s=>?_,aS S.lo u.size,I.bs,I.old,I.os,I.tape,I.output,λhk=>(S.kV hk).trans N⟩,hv.acf v G,by rw[L.df']⟩
 .rcases L.behind i o hi l with⟨j,n,h1,rfl,rfl⟩|⟨h1,g⟩
  .obtain⟨p,ob,_,e2,y,z,D,e6⟩:=new j n h1 (AO.fF.1 l)
   exact⟨p,ob,e2,y,z.1,D,e6⟩
  .obtain⟨p,ob,e1,e2,y,z,D,_⟩:=old i o h1 (hX i g) l
   exact⟨p,ob,N _ _ e1,e2,y,z,D.mono N⟩
 .rcases L.behind i o e1 l1 with⟨a,oa,O,rfl,rfl⟩|⟨O,g2⟩<;>rcases L.behind j B e2 l2 with⟨b,ob,k1,rfl,rfl⟩|⟨k1,k2⟩
  .obtain⟨p',_,T,m2,_⟩:=new a oa O (AO.fF.1 l1)
   obtain⟨q',_,m3,U,_⟩:=new b ob k1 (AO.fF.1 l2);rw[hp]at m2;cases m2;rw[t]at U;cases U;rw[I.inj a b oa ob _ _ O k1 (AO.fF.1 l1) (AO.fF.1 l2) T m3 s]
  .obtain⟨p',_,T,m2,_,m5,_⟩:=new a oa O (AO.fF.1 l1)
   obtain⟨q',_,m3,_,_,_,_,U⟩:=old j B k1 (hX j k2) l2;rw[hp]at m2;cases m2;rw[N _ _ m3]at t;cases t;exact aX (s▸m5) U
  .obtain⟨p',_,T,m2,_,m5,_⟩:=new b ob k1 (AO.fF.1 l2)
   obtain⟨q',_,m3,_,_,_,_,U⟩:=old i o O (hX i g2) l1;rw[t]at m2;cases m2;rw[N _ _ m3]at hp;cases hp;exact aX (s▸m5) U
  .obtain⟨p',_,T,_⟩:=S.objs i o O l1
   obtain⟨q',_,m2,_⟩:=S.objs j B k1 l2;rw[N _ _ T]at hp;cases hp;rw[N _ _ m2]at t;cases t;exact S.inj i j o B _ _ O k1 l1 l2 T m2 s
end
end Go.Ev
