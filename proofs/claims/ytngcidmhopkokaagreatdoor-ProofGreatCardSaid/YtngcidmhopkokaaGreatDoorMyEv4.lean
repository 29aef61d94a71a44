/- A part of the proof that ProofGreat returns true. -/
import Derived.Test.YtngcidmhopkokaaGreatDoorMyEv3
import Derived.KernelRfl
set_option linter.all false
namespace Go.Ev
set_option maxRecDepth 100000
section
open Go.Conc
open Go.ConcX (WgAt wgBlock stA smA KK OfWg RCa RCd DC0 KCa Full Payload Shy DCs EvQ)
open Go.ConcN (sumTo sumTo_upd upd_same)
open Go.Conc.Lib (WgLib WgLink)
variable{h:AH}
noncomputable def FZ(E:Env)(n:Nat):AF->Option (AF×Option Tmp×FuncId×List AV):=
 @Nat.rec (λ_=>AF->Option (AF×Option Tmp×FuncId×List AV)) (λ_=>none) (λ_ a f=>match stepT E f with
  |some (.go f')=>a f'
  |some (.call f' d g args)=>some (f',d,g,args)
  |_=>none) n
noncomputable def Kl(ty:TypeId)(h:AH)(id:Nat):Bool:=match h.obj id with
 | .cells [.int .u64 st,.int .u32 a] el false false=>st==KK&&a==0&&Nat.beq el ty
 |_=>false
noncomputable def zY(h:AH)(id:Nat):Bool:=match h.obj id with | .cells _ _ false false=>true|_=>false
def PK:Option T1->Bool
 |some (.ret _)=>true
 |_=>false
noncomputable def ach(E:Env)(D:FuncId)(a:Nat)(s:OS):Option AH:=
 match s.k,iw E s.f s.h with
 |[],some (.dcall f' g [.ptr i 0] h')=>cond (Nat.beq g D&&(Nat.beq i a&&(Nat.beq h'.df 0&&(PK (stepT E f')&&f'.x.deferred)))) (some h') none
 |_,_=>none
def aeC:List AV->Option Nat
 |_:: .ptr c 0::_=>some c
 |_=>none
noncomputable def Gx(E:Env)(I:nN)(D:FuncId)(ty:TypeId)(n m:Nat)(out:List FuncId)(s:OS):Option OS:=
 match stepT E s.f with
 |some (.spawn f' g args)=>match FZ E 200 f' with
  |some (b,d,e,[.ptr a 0])=>cond (Nat.beq e I.wait&&(Kl ty s.h a&&Nat.beq s.h.df 0)) (match iW E g args true,aeC args with
   |some i,some c=>match ach E D a (Cj E (qW E n) out m ⟨i,[],s.h.put a .dead⟩)with
    |some h'=>cond (Nat.ble h'.nx OLD) (cond (zY h' c) (some ⟨aa4 b d (.bV []),s.k,h'⟩) none) none
    |none=>none
   |_,_=>none) none
  |_=>none
 |_=>none
section
variable{P:Program}{ty:TypeId}{Wg:Nat}{Fin Z:Goroutine->Prop}
theorem MW.mono{Stop a:Nat->Goroutine->Prop}(h:∀d g,Stop d g->a d g):∀{n d:Nat} {g:Goroutine},MW P ty Wg Stop n d g->MW P ty Wg a n d g
 |0,_,_,H=>h _ _ H
 |n+1,d,g,H=>H.elim (λx=> .inl (h _ _ x)) λx=> .inr ⟨x.1,λw b=>by
  obtain⟨g',es,h1,c,e⟩:=x.2 w b;exact⟨g',es,h1,c,MW.mono h e⟩⟩
theorem AtAcq.mono(h:∀g,Fin g->Z g){g:Goroutine}(H:AtAcq P Wg Fin g):AtAcq P Wg Z g:=⟨H.1,λw=>by obtain⟨g',h1,a⟩:=H.2 w;exact⟨g',h1,h _ a⟩⟩
theorem Ya.mono(h:∀g,Fin g->Z g){n:Nat}{g:Goroutine}(H:Ya P ty Wg Fin n g):Ya P ty Wg Z n g:=MW.mono (λ_ _ x=>⟨x.1,x.2.mono h⟩) H
theorem Kj.mono(h:∀g,Fin g->Z g){g:Goroutine}(H:Kj P ty Wg Fin g):Kj P ty Wg Z g:=⟨H.1,λw a b=>by obtain⟨g',h1,n,c⟩:=H.2 w a b;exact⟨g',h1,n,c.mono h⟩⟩
theorem X9.mono(h:∀g,Fin g->Z g){n:Nat}{g:Goroutine}(H:X9 P ty Wg Fin n g):X9 P ty Wg Z n g:=MW.mono (λ_ _ x=>⟨x.1,x.2.mono h⟩) H
theorem Fy.mono(h:∀g,Fin g->Z g){g:Goroutine}(H:Fy P ty Wg Fin g):Fy P ty Wg Z g:=⟨H.1,H.2.1,H.2.2.1,λw a=>by obtain⟨g',h1,n,b⟩:=H.2.2.2 w a;exact⟨g',h1,n,b.mono h⟩⟩
theorem Z5.mono(h:∀g,Fin g->Z g){n:Nat}{g:Goroutine}(H:Z5 P ty Wg Fin n g):Z5 P ty Wg Z n g:=MW.mono (λ_ _ x=>⟨x.1,x.2.mono h⟩) H
theorem II.mono(h:∀g,Fin g->Z g){g:Goroutine}(H:II P ty Wg Fin g):II P ty Wg Z g:=
 ⟨H.1,λw a=>by obtain⟨g',h1,n,b⟩:=H.2.1 w a;exact⟨g',h1,n,b.mono h⟩,λw a=>by obtain⟨g',h1,n,b⟩:=H.2.2 w a;exact⟨g',h1,n,b.mono h⟩⟩
theorem Z6.mono(h:∀g,Fin g->Z g){n:Nat}{g:Goroutine}(H:Z6 P ty Wg Fin n g):Z6 P ty Wg Z n g:=MW.mono (λ_ _ x=>⟨x.1,x.2.mono h⟩) H
theorem QK.mono(h:∀g,Fin g->Z g){g:Goroutine}(H:QK P ty Wg Fin g):QK P ty Wg Z g:=
 ⟨H.1,λw a=>by obtain⟨g',h1,n,b⟩:=H.2.1 w a;exact⟨g',h1,n,b.mono h⟩,λw a=>by obtain⟨g',h1,n,b⟩:=H.2.2 w a;exact⟨g',h1,n,b.mono h⟩⟩
theorem MLd.mono(h:∀g,Fin g->Z g){d n:Nat}{g:Goroutine}(H:MLd P ty Wg Fin d n g):MLd P ty Wg Z d n g:=MW.mono (λ_ _ x=>⟨x.1,x.2.mono h⟩) H
end
section
variable{P:Program}{E:Env}{I:nN}{Z:Nm}
def Tc(P:Program)(Z:Nm)(c:AF)(e:Option Tmp)(g:FuncId)(args:List AV)(cs:List Frame)(dd:Nat):Nat->Goroutine->Prop:=λd a=>
 d=dd∧∃b vs,a=G (Frame.enter P g vs .normal) (b::cs)∧BP Z c e b∧dJ Z args vs.toList
theorem Gt(F:Fits P E)(FF:dM P E){ty:TypeId}{Wg:Nat}{g:FuncId}{args:List AV}{a:AF}{b:Option Tmp}{c:Code}{nt:Nat}{p:List ResultVar}{x:EX}(o:E.ft.get g=some ⟨some c,nt,p,x⟩)(cs:List Frame)(dd:Nat):∀(n:Nat) (f:AF) (fr:Frame),FZ E n f=some (a,b,g,args)->RF Z f fr->
 MW P ty Wg (Tc P Z a b g args cs dd) n dd (G fr cs)
 |0,_,_,e,_=>by cases e
 |n+1,f,fr,e,R=>by
  have e:(match stepT E f with
   |some (.go f')=>FZ E n f'
   |some (.call f' d g args)=>some (f',d,g,args)
   |_=>none)=some (a,b,g,args):=e
  split at e
  .rename_i f' j
   have h:=qB (main:=true) (cs:=cs) F FF R j;refine .inr ⟨rfl,λw _=>?_⟩;obtain⟨k,⟨es,h1,i⟩,l⟩:=h w;refine⟨_,es,h1,Bt i,?_⟩;rw[zm i];exact Gt F FF o cs dd n f' k e l
  .rename_i f' d g' m j
   cases e;obtain⟨h1,_,vs,i,l⟩:=qB (main:=true) (cs:=cs) F FF R j;refine .inr ⟨rfl,λw _=>⟨_,#[],(l w).1 _ _ _ _ o,by simp,?_⟩⟩;have:Tc P Z a b g args cs dd dd (G (Frame.enter P g vs .normal) (fr::cs)):=⟨rfl,fr,vs,rfl,h1,i⟩;cases n with
   |zero=>exact this
   |succ n=>exact .inl this
  .cases e
theorem Y2(X:vo P E I)(b:uz E I=true){ty:TypeId}{Wg y q:Nat}(j:Z q=some (Wg,y)){r:AF}{u:Option Tmp}{f:AF}{fr:Frame}(cs:List Frame){n:Nat}(e:FZ E n f=some (r,u,I.wait,[.ptr q 0]))(R:RF Z f fr):
 ∃m,MLd P ty Wg (λa=>∃h,BP Z r u h∧Dw P ty Wg h cs a) 0 m (G fr cs):=by
 have k:∃c nt i x,E.ft.get I.wait=some ⟨some c,nt,i,x⟩:=by
  unfold uz at b;split at b
  .rename_i f l
   unfold iW at l;split at l
   .rename_i c n i x z
    exact⟨c,n,i,x,z⟩
   .cases l
  .cases b
 obtain⟨c,nt,i,x,k⟩:=k;have h1:=Gt (ty:=ty) (Wg:=Wg) X.F X.FF k cs 0 n f fr e R;refine⟨n+200,Qj.mw_then (m:=200) (λd g A=>?_) h1⟩;obtain⟨rfl,h,vs,rfl,B,C⟩:=A;obtain⟨v,rfl,o⟩:=args1 C;obtain⟨p,hp,rfl⟩:=iV o;rw[j]at hp;cases hp;exact MLd.mono (λa D=>⟨h,B,D⟩) (Ym (ty:=ty) (Wg:=Wg) X b h cs)
end
def QD(P:Program)(E:Env)(W:World)(B0:Nat)(cs:List Frame)(s:OS):Array Goroutine->World->Option (Nat×Nat)->Trace->Prop:=λgs w _ t=>
 ∃K Shun a q,Of K P E∧K.W0=W∧K.fz=(λb=>b<B0)∧QJ K Shun∧gs[0]? =some a∧OAt K (λ_=>none) cs s s.h.df a w∧Leavers P t gs q∧lI Shun w.heap.size s.h.df t
section
variable{P:Program}{E:Env}{I:nN}{W:World}{U:Nat}{Z:List Frame}{V:Array Goroutine}{w:World}{Y:Option (Nat×Nat)}{t:Trace}{s T:OS}
theorem Vy(F:Fits P E)(FF:dM P E)(n m:Nat)(out:List FuncId)(H:QD P E W U Z s V w Y t):Reaches P V w Y t (QD P E W U Z (Cj E (qW E n) out m s)):=by
 obtain⟨K,Shun,a,q,h1,h,i,g,h0,j,k,l⟩:=H;refine Reaches.then (wL g (Kv (main:=true) F FF h1 n (out:=out) m s j) w (jW.refl w) V Y t q h0 k l) ?_
 rintro o w1 p t1 ⟨r,B,u,C,b,c,d,e⟩
 obtain⟨ι,fr,f,k1,v,x,y,z,rfl,A⟩:=c;exact .here ⟨K,Shun,r,u,h1,h,i,g,b,⟨ι,fr,f,k1,v,x,y,z,rfl,A⟩,d,e⟩
theorem OZ{ty:TypeId}{id:Nat}(e:Kl ty h id=true):h.obj id= .cells [.int .u64 KK,.int .u32 0] ty false false:=by
 unfold Kl at e;split at e
 .rename_i st b el a
  simp only[av,fK]at e;obtain⟨⟨rfl,rfl⟩,e⟩:=e;rw[ak e]at a;exact a
 .cases e
theorem IU{id:Nat}(e:zY h id=true):∃vs el,h.obj id= .cells vs el false false:=by
 unfold zY at e;split at e
 .exact⟨_,_,‹_›⟩
 .cases e
theorem WK{D b:Nat}{s:OS}(e:ach E D b s=some h):s.k=[]∧h.df=0∧∃f' v,iw E s.f s.h=some (.dcall f' D [.ptr b 0] h)∧stepT E f'=some (.ret v)∧f'.x.deferred=true:=by
 unfold ach at e;split at e
 .rename_i f' g i h' j d
  cases a:(Nat.beq g D&&(Nat.beq i b&&(Nat.beq h'.df 0&&(PK (stepT E f')&&f'.x.deferred))))with
  |false=>rw[a]at e;cases e
  |true=>
   rw[a]at e;cases e;simp only[av]at a;obtain⟨l,m,n,c,c5⟩:=a;rw[ak l,ak m]at d;refine⟨j,ak n,f',?_⟩;unfold PK at c;split at c
   .exact⟨_,d,‹_›,c5⟩
   .cases c
 .cases e
theorem ac3(t:Trace)(g:Nat)(fn:FuncId)(pos:String)(a b:MemOp):t++((MemOp.ofEvents g fn pos #[]).push a).push b=(t.push a).push b:=by
 rw[ofEvents_none];apply bU.1;simp
theorem JM(t:Trace)(i j:Nat)(fn b:FuncId)(pos a:String)(g g':Nat):Deaf ((t.push { g:=g,fn,pos,act:= .go j }).push { g:=g',fn:=b,pos:=a,act:= .start }) i=Deaf t i:=by
 have e:(t.push { g:=g,fn,pos,act:= .go j }).push { g:=g',fn:=b,pos:=a,act:= .start }=t++(#[{ g:=g,fn,pos,act:= .go j },{ g:=g',fn:=b,pos:=a,act:= .start }]:Trace):=by
  apply bU.1;simp
 rw[e];have:=Deaf_append t i [({ g:=g,fn,pos,act:= .go j }:MemOp),{ g:=g',fn:=b,pos:=a,act:= .start }];simp only[jZ,List.foldl_nil,deafStep]at this;rw[show(#[{ g:=g,fn,pos,act:= .go j },{ g:=g',fn:=b,pos:=a,act:= .start }]:Trace)=⟨[{ g:=g,fn,pos,act:= .go j },{ g:=g',fn:=b,pos:=a,act:= .start }]⟩from rfl,this]
theorem Pb(X:vo P E I)(hwait:uz E I=true){L:WgLink}(H:WgLib P L){n m:Nat}{out:List FuncId}(e:Gx E I L.done L.tWg n m out s=some T)(HM:QD P E W U Z s V w Y t):Reaches P V w Y t (QD P E W U Z T):=by
 unfold Gx at e;split at e
 .rename_i f' g args hsp
  split at e
  .rename_i fw dw gw Q hcall
   cases hc:(Nat.beq gw I.wait&&(Kl L.tWg s.h Q&&Nat.beq s.h.df 0))with
   |false=>rw[hc]at e;cases e
   |true=>
    rw[hc]at e;simp only[bA]at e;simp only[av]at hc;obtain⟨hgw,hwg,hdf⟩:=hc;have hgw:=ak hgw;have hdf:=ak hdf;have hwg:=OZ hwg;subst hgw;split at e
    .rename_i f2 c hf2 hbl
     split at e
     .rename_i h' hend
      cases J:Nat.ble h'.nx OLD with
      |false=>rw[J]at e;cases e
      |true=>
      rw[J,bA]at e;have J:=aF J;cases hpl:zY h' c with
      |false=>rw[hpl]at e;cases e
      |true=>
       rw[hpl]at e;cases e;obtain⟨vsc,elc,hcobj⟩:=IU hpl;obtain⟨hke,hdf',fd,vd,hsd,hrd,hdd⟩:=WK hend;obtain⟨K,Shun,a,q,hKP,hKW0,hKB,hA,h0,hO,hL,hP⟩:=HM;rw[hdf]at hO hP;obtain⟨ι,fr,k,rfl,hB,R,HS,S,_,_⟩:=hO;refine Reaches.then (Js (w0:=w) (B:=w.heap.size) (d:=0) rfl _ V w Y t q rfl rfl h0 hL hP ⟨w.drawn,rfl⟩) ?_
       rintro A w1 sl1 t1 ⟨hN1,h01,⟨x1,rfl⟩,q1,hL1,hP1,dr,sl2,hpk⟩
       have S1:Sat K ι s.h ((w.at x1).at dr):=S.rely (jW.drawn w dr);obtain⟨fs,as,v,hargs,u,R',hspawn⟩:=qB (main:=true) (cs:=k++Z) X.F X.FF R hsp;have hpos:0<A.size:=(aS.1 h01).1;have hrunT:=runT_crowd_spawn (P:=P) (sl:=sl2) (i:=0) h01 (show stepG P (0==0) _ ((w.at x1).at dr)=_ from hspawn _);obtain⟨p,ob,hp,hb1,hown,hlt,O,ca,lo,hi,rfl,⟨l1,l2,M,hv⟩,z1,z2,z3⟩:=S1.at hwg trivial;obtain⟨rfl,rfl⟩:=(z3 rfl).2 rfl;have hca:ca=#[.int .u64 KK,.int .u32 0]:=by
        have hl2:l2=[]:=by
         have e1:=z1 rfl;have e2:=fZ List.length M;have e3:=hv.length;simp at e1 e2 e3;exact bB.1 (by omega)
        subst hl2;obtain⟨v1,r1,e1,hv1,hr1⟩:=aX hv;obtain⟨v2,r2,e2,hv2,hr2⟩:=aX hr1;rw[bJ hr2]at e2;unfold RV at hv1 hv2;subst hv1;subst hv2;apply bU.1;rw[M,e1,e2];rfl
       subst hca;have hgrp:WgAt L.tWg p.1 ((w.at x1).at dr) KK 0:=O;have hSW:∀l,Shun l->¬OfWg p.1 l:=λl hs ⟨y,hy,hyb⟩=>(hA l p.1 hs (by rw[hy];simp[yc,hyb])).1 ⟨hb1,hown⟩;have SM:sS K ι (λi o=>s.h.tr.get i=some o) ((w.at x1).at dr):=S1.toM λ_ _ h _=>h;have hdead:∀i o,(s.h.put Q .dead).tr.get i=some o->o.live->s.h.tr.get i=some o∧¬i=Q:=λi o hi M=>by
        have hi:(s.h.tr.set Q .dead).get i=some o:=hi;rcases Tr.pU hi with⟨rfl,rfl⟩|⟨h1,h2⟩
        .exact M.elim
        .exact⟨h2,h1⟩
       have SW:=SM.less (X:=λi=>i=Q) (h:=s.h.put Q .dead) hdead;obtain⟨z,hK'⟩:∃z,z=Ctx.less K ι (λi o=>s.h.tr.get i=some o) (λi=>i=Q) ((w.at x1).at dr) SM.lo SM.lt:=⟨_,rfl⟩;rw[← hK']at SW;have C:Of z P E:=by rw[hK'];exact⟨hKP.P,hKP.mem,hKP.pk⟩
       have j:¬z.own p.1:=by
        rw[hK']
        rintro⟨_,hx⟩
        have ho:s.h.tr.get Q=some (.cells [.int .u64 KK,.int .u32 0] L.tWg false false):=AH.wV hwg trivial;exact hx ⟨Q,_,p,rfl,ho,trivial,hp,rfl⟩
       have f:Sub z K:=by rw[hK'];exact sG
       have hA':QJ z (λl=>Shun l∨OfWg p.1 l):=λl b M O=>by
        refine⟨?_,?_⟩
        .rintro⟨h1,h2⟩
         rcases M with M|⟨y,hy,hyb⟩
         .exact(hA l b M O).1 ⟨by rw[← f.base];exact h1,f.own _ h2⟩
         .rw[hy]at O
          simp only[yc,bM]at O;exact j (by rw[← hyb,O];exact h2)
        .rintro⟨h1,h2⟩
         rcases M with M|⟨y,hy,hyb⟩
         .exact(hA l b M O).2 ⟨f.peek h1,by rw[← f.base];exact h2⟩
         .rw[hy]at O
          simp only[yc,bM]at O;rw[f.base]at h2;exact hb1 (by rw[← hyb,O];exact h2)
       have hA0:QJ z Shun:=λl b M O=>hA' l b (.inl M) O;have r:=hf2;unfold iW at r;split at r
       .rename_i cw nw rsw xw hgw
        have hfd:f2.x.deferred=true:=by
         cases hble:Nat.ble args.length nw with
         |false=>rw[hble]at r;cases r
         |true=>rw[hble]at r;cases r;rfl
        have RW:RF ι f2 (Frame.enter P g ((fs++as)++v) .deferred):=kL X.FF hf2 (vs:=(fs++as)++v) hargs rfl;have hdfw:(s.h.put Q .dead).df=0:=hdf;have hO2:OAt z ι [bot P] ⟨f2,[],s.h.put Q .dead⟩ 0 (G (Frame.enter P g ((fs++as)++v) .deferred) [bot P]) ((w.at x1).at dr):=⟨ι,_,[],rfl,hB,RW,rfl,SW,hdfw.symm,λ_ _ h=>h⟩;let Stop:Nat->Goroutine->World->Prop:=λd b ws=>d=0∧QL P L.tWg p.1 z b ws∧∃ι',Sat z ι' h' ws∧Ext ι ι'∧Bare ι' h'.nx;have hwalk:Walk P false z Stop 0 (born P { target:= .fn (.func g) v,args:=fs++as }) ((w.at x1).at dr):=by
         refine Walk.of rfl λD hr₁=>⟨_,D,#[],Uy X.FF hgw fs as v D,iA.refl D,?_⟩;show Walk P false z Stop 0 _ D;refine((Kv (main:=false) X.F X.FF C n (out:=out) m _ hO2).rely hr₁).bind ?_
         rintro d2 g2 w2 ⟨ι2,fr2,frs2,rfl,b1,b2,b3,b4,rfl,b5⟩
         rw[hke]at b3;have b3:frs2=[]:=b3;subst b3;refine Walk.of rfl λw₃ hr₃=>?_;have ok:wJ P false z ι2 _ w₃ fr2 ([]++[bot P]) _:=step_ok C X.F X.FF (b4.rely hr₃) b2 hsd;obtain⟨ι3,fr3,vs3,w4,es,k1,k2,k3,k4,⟨k5,k5'⟩,k6,k7⟩:=ok (b1.free J);have hE3:Ext ι ι3:=b5.trans (k2.ext (b1.free J));obtain⟨v3,rfl,hv3⟩:=args1 k4;obtain⟨p3,hp3,rfl⟩:=iV hv3;rw[hE3 _ _ hp]at hp3;cases hp3;refine⟨_,w4,es,k1,k6,.stop λw₅ hr₅=>⟨k7.trans hdf',?_,ι3,k3.rely hr₅,hE3,b1.grow k2⟩⟩;have S5:=k3.rely hr₅;exact Zz X.F X.FF H C S5 j (by have:=S5.lo;rw[hK']at this;exact gZ hlt this) hcobj hdd hrd k5 k5'
        have hP1':lI Shun ((w.at x1).at dr).heap.size 0 t1:=hP1;have hj:A.size≠0:=by omega
        have hfork:=FV.fork hP1' hj (hL1.above _ (ah _)) hSW (G fr (k++Z)).frame.fn (born P { target:= .fn (.func g) v,args:=fs++as }).frame.fn (G fr (k++Z)).frame.place (G fr (k++Z)).frame.place;refine Reaches.step (by rw[hpk];exact hrunT) ?_;rw[ac3];obtain⟨mj,hmj⟩:=Y2 (P:=P) (ty:=L.tWg) X hwait hp (k++Z) hcall R';have hPA:PA P L.tWg p.1 A.size (λa=>∃u,BP ι fw dw u∧Dw P L.tWg p.1 u (k++Z) a) Shun false KK 0 0 3 mj none ((A.setIfInBounds 0 (G u (k++Z))).push (born P { target:= .fn (.func g) v,args:=fs++as })) ((w.at x1).at dr) _ (G u (k++Z)) (born P { target:= .fn (.func g) v,args:=fs++as }) q1:=
         ⟨by rw[Array.getElem?_push_lt (by simpa using hpos)];simp[hpos],by rw[show A.size=(A.setIfInBounds 0 (G u (k++Z))).size by simp];exact Array.getElem?_push_size,.ld hmj,hgrp,λ_=>rfl,rfl,⟨λi x h1 h2 hx=>(by
          have hx':A[i]? =some x:=by
           rw[kr,au (by simpa using h2),bI (by omega)]at hx;exact hx
          rw[JM];exact hL1.old i x h1 hx'),λi hi=>(by
          rw[JM];exact hL1.above i (by simp at hi;omega))⟩,hfork⟩
        have hKW:¬z.fz p.1:=by rw[f.base];exact hb1
        refine Reaches.then (st0 (Fin:=λa=>∃u,BP ι fw dw u∧Dw P L.tWg p.1 u (k++Z) a) hj hSW hA0 j hKW _ (λd b w hs=>⟨hs.1,hs.2.1⟩) hwalk _ sl2 _ q1 _ false KK 0 3 mj _ (jW.refl _) rfl (λh=>by cases h) hPA) ?_
        rintro gs4 w4 sl4 t4 ⟨b4,ws,⟨_,_,ι',S',hE',hB'⟩,a4,q4,hN4,h04,⟨fr4,hw4,n4,hm4⟩,hL4,hP4,N,hg4⟩
        refine Reaches.then (YV (ty:=L.tWg) (Wg:=p.1) (λd g hs=>by rw[hs.2];rfl) hg4 n4 _ a4 0 gs4 w4 sl4 t4 q4 rfl rfl h04 hm4 hL4 hP4 ⟨w4.drawn,rfl⟩) ?_
        rintro gs5 w5 sl5 t5 ⟨d5,a5,q5,hN5,h05,⟨rfl,rfl⟩,⟨x5,rfl⟩,hL5,hP5⟩
        have hrel:jW z ws (w4.at x5):=⟨N.size,λx _ hx=>N.block x λe=>j (e▸hx),λx hx=>N.block x (λe=>hKW (e▸hx)),N.os,N.tape,N.output⟩;refine .here ⟨z,_,_,q5,C,by rw[f.W0];exact hKW0,by rw[f.base];exact hKB,hA',h05,⟨ι',fr4.finish (.tuple #[]),k,rfl,hB',?_,HS.mono hE',S'.rely hrel,rfl,λi p h=>(by cases h)⟩,hL5,?_⟩
        .have:=(hw4 (.bV []) (.tuple #[]) (by unfold RV;exact⟨#[],rfl,bS⟩)).mono hE'
         obtain⟨x,tm,td,ds,rt⟩:=fw;exact this
        .show lI _ _ h'.df t5
         rw[hdf'];exact hP5
       .cases r
     .cases e
    .cases e
  .cases e
 .cases e
end
end
section
open Go.Conc (G)
variable{g:FuncId}{n:Nat}
def Does(P:Program)(E:Env)(f:AF)(h:AH)(v:AV)(h':AH):Prop:=
 h.nx<=h'.nx∧∀(K:Ctx) (ι:Nm) (w:World) (fr c:Frame) (a:List Frame),Of K P E->Sat K ι h w->RF ι f fr->(fr.kind= .deferred->Calm c)->Free ι h.nx h'.nx->
  Walk P true K (jD K ι h.nx fr.kind c a v h') h.df (G fr (c::a)) w
def DoesC(P:Program)(E:Env)(g:FuncId)(args:List AV)(h:AH)(v:AV)(h':AH):Prop:=h.nx<=h'.nx∧Kg P true E g args false h v h'
section
variable{P:Program}{E:Env}{f f':AF}{h h1 Z h':AH}{v u:AV}
theorem DoesC.enter(FF:dM P E){g:FuncId}{args:List AV}(e:iW E g args false=some f)(H:Does P E f h v h'):DoesC P E g args h v h':=
 ⟨H.1,λK ι w vs c a b S d _ i=>H.2 K ι w (Frame.enter P g vs .normal) c a b S (kL FF e d rfl) (λj=>by cases j) i⟩
open Classical in
theorem VY:Bb P E true (λ_ _=>none):=λ_ _ _ _ _ _ _ _ _ _ _ e=>by cases e
theorem VX:mV.Up (λ_ _=>none):=λ_ _ _ _ e=>by cases e
theorem Does.ret(F:Fits P E)(FF:dM P E)(e:iw E f h=some (.ret v h')):Does P E f h v h':=by
 refine⟨by have:=oz e;exact this,λK ι w fr c a b S R d g=>?_⟩;exact Ml F FF VY VX (Gi F FF (λ_=>F6 VY FF) (λ_=>zZ VX)) K ι w fr c a f h v h' b (by simp only[e];rfl) S R d g
def AtF(K:Ctx)(ι:Nm)(nx:Nat)(cs:List Frame)(f':AF)(h':AH):Nat->Goroutine->World->Prop:=λd g w=>
 ∃ι' a,g=G a cs∧Grow ι ι' nx h'.nx∧Sat K ι' h' w∧RF ι' f' a∧d=h'.df
def DoesS(P:Program)(E:Env)(f:AF)(h:AH)(f':AF)(h':AH):Prop:=
 h.nx<=h'.nx∧f'.x=f.x∧∀(K:Ctx) (ι:Nm) (w:World) (fr:Frame) (cs:List Frame),Of K P E->Sat K ι h w->RF ι f fr->Free ι h.nx h'.nx->
  Walk P true K (AtF K ι h.nx cs f' h') h.df (G fr cs) w
theorem DoesS.refl(f:AF)(h:AH):DoesS P E f h f h:=
 ⟨ah _,rfl,λ_ ι _ fr _ _ S R _=> .stop λ_ hr=>⟨ι,fr,rfl,Grow.refl _ _,S.rely hr,R,rfl⟩⟩
theorem DoesS.trans{e:AF}(A:DoesS P E f h f' h1)(B:DoesS P E f' h1 e Z):DoesS P E f h e Z:=by
 refine⟨aQ A.1 B.1,B.2.1.trans A.2.1,λK ι w fr cs i S R j=>?_⟩;refine(A.2.2 K ι w fr cs i S R (j.sub (ah _) B.1)).bind ?_
 rintro d g w' ⟨ι',c,rfl,k,l,m,rfl⟩
 refine(B.2.2 K ι' w' c cs i l m (k.free j)).mono ?_
 rintro d g n ⟨a,b,rfl,k1,o,p,rfl⟩
 exact⟨a,b,rfl,k.trans k1,o,p,rfl⟩
theorem Does.of(A:DoesS P E f h f' h1)(B:Does P E f' h1 v h'):Does P E f h v h':=by
 refine⟨aQ A.1 B.1,λK ι w fr c a e S R m i=>?_⟩;refine(A.2.2 K ι w fr (c::a) e S R (i.sub (ah _) B.1)).bind ?_
 rintro d g w' ⟨ι',b,rfl,j,n,k,rfl⟩
 have l:b.kind=fr.kind:=R.mQ k A.2.1;have W:=B.2 K ι' w' b c a e n k (by rw[l];exact m) (j.free i);rw[l]at W;exact W.mono λ_ _ _ H=>jD.up j H
theorem DoesS.go(F:Fits P E)(FF:dM P E)(e:iw E f h=some (.go f' h1)):DoesS P E f h f' h1:=by
 refine⟨by have:=oz e;exact this,vX e,λK ι w fr cs j S R k=>?_⟩;refine Walk.of rfl λd a=>?_;have b:wJ P true K ι h d fr cs _:=step_ok j F FF (S.rely a) R e;obtain⟨ι',g,w',es,k1,l,m,n,o,p⟩:=b k;exact⟨_,w',es,k1,o,.stop λi c=>⟨ι',g,rfl,l,m.rely c,n,p⟩⟩
theorem DoesS.call(F:Fits P E)(FF:dM P E){d:Option Tmp}{g:FuncId}{args:List AV}(e:iw E f h=some (.call f' d g args h1))(C:DoesC P E g args h1 u Z):DoesS P E f h (vZ (f',d) u) Z:=by
 have z:h.nx<=h1.nx:=oz e;have n:f'.x=f.x:=vX e;refine⟨aQ z C.1,n,λK ι w fr cs p S R q=>?_⟩;refine Walk.of rfl λj b=>?_;have k:=S.rely b;have c:wJ P true K ι h j fr cs _:=step_ok p F FF k R e;have o:=C.1;obtain⟨ι',l,vs,w',es,k1,r,A,B,⟨D,G⟩,H,I⟩:=c (q.sub (ah _) o);have m:=r.free q;refine⟨_,w',es,k1,H,?_⟩;rw[I];refine(C.2 K ι' w' vs l cs p A B (λn=>by cases n) m).bind ?_
 rintro O g' J ⟨a,s,rfl,t,L,M,rfl⟩
 have N:=t.ext m;exact .stop λy i=>⟨a,l.finish s,rfl,r.trans t,L.rely i,D a u s N M,rfl⟩
theorem DoesS.drawn(F:Fits P E)(FF:dM P E){x:AX}{tm:Tr AV}{a:Array Oper}{k:List AI}{ds:List AD}{r:Nat->yj}{p:Tr AV×AH}(e:iw E f h=some (.drawn x tm a k ds h1))(I:yu a.toList (Region.before a) a=true)
 (hr:∀i,BR P true E (r i))(y:∀i,(r i).Up)(hp:wQ E r x (Region.before a) a h1 a.toList 0 tm [] [] [] h1=some p):DoesS P E f h ⟨x,p.1,k,ds,false⟩ p.2:=by
 have J:h.nx<=h1.nx:=oz e;have z:=Kw y _ _ _ _ _ _ _ _ hp;have L:x=f.x:=vX e;refine⟨aQ J z,L,λK ι w fr cs B S R C=>?_⟩;refine Walk.of rfl λb n=>?_;have c:=S.rely n;have o:wJ P true K ι h b fr cs _:=step_ok B F FF c R e;obtain⟨rfl,t,d,A,k1,M,N⟩:=o;refine⟨_,_,#[],k1,iA.drawn b d,?_⟩;have W:=Gi F FF hr y K ι { b with drawn:=d } x tm ds a t A _ cs h1 p.1 p.2 B (c.drawn d) N I hp C;refine W.bind ?_
 rintro Y g' O ⟨g,j,rfl,D,Q,l,rfl⟩
 have T:=D.ext C;refine Walk.of rfl λm q=>?_;have U:=l.todo;have V:=l.mode;refine⟨G { j with todo:=A } cs,m,#[],by simp[G,stepG,V,stepG.exec,U],iA.refl m,?_⟩;have X:RF g ⟨x,p.1,k,ds,false⟩ { j with todo:=A }:=⟨l.fn,l.tm,M.mono T,l.ds,by simpa using l.mode,l.kind,l.round⟩;exact .stop λH s=>⟨g,_,rfl,D,(Q.rely q).rely s,X,rfl⟩
theorem Does.of_run(F:Fits P E)(FF:dM P E)(e:qW E n f h=some (v,h')):Does P E f h v h':=
 ⟨Ck n _ _ _ _ e,λK ι w fr c a b S R d g=>runF_ok F FF n K ι w fr c a f h v h' b e S R d g⟩
theorem DoesC.of_run(F:Fits P E)(FF:dM P E){args:List AV}{p:AV×AH}(e:Au E (qW E n) g args false h=some p):DoesC P E g args h p.1 p.2:=
 ⟨tN (Ck n) e,Kg.Rs (runF_ok F FF n) FF e⟩
end
end
section
open Go.Conc (G)
variable{g:FuncId}{i:Nat}{obs:List Prop}{ops:Array Oper}
inductive DA where
 |c
 |s
 |v (v:AV)
 |l (v:AV) (h':AH)
 |k (v:AV) (h':AH)
inductive Kk where
 |n (k:Nat)
 |br (b:Bool)
 |s
 |v (v:AV)
 |l (v:AV) (h':AH)
 |k (v:AV) (h':AH)
 |d (l:List DA)
noncomputable def goN(E:Env)(k:Nat):AF->AH->Option (AF×AH):=
 @Nat.rec (λ_=>AF->AH->Option (AF×AH)) (λf h=>some (f,h)) (λ_ a f h=>match iw E f h with
  |some (.go f' h')=>a f' h'
  |_=>none) k
noncomputable def Ed(E:Env)(b:Array Nat)(q:DQ):List (Nat×AH)->List Prop
 |[]=>[]
 |p::l=>cond ((b.getD p.1 0).testBit q.i||l.any λx=>(b.getD q.i 0).testBit x.1) (Ed E b q l) ((fA q.op E q.tm p.2=some q.v)::Ed E b q l)
noncomputable def zV(E:Env)(b:Array Nat)(a:List (Nat×AH))(h0:AH):List DQ->List Prop
 |[]=>[]
 |q::c=>cond (a.any λp=>(b.getD q.i 0).testBit p.1) (Ed E b q a++zV E b a h0 c) ((fA q.op E q.tm h0=some q.v)::(Ed E b q a++zV E b a h0 c))
abbrev RP:=Option (Tr AV×AH×List Prop)
def RP.add(l:List Prop):RP->RP
 |some (tm,h,m)=>some (tm,h,l++m)
 |none=>none
noncomputable def Ar(P:Program)(E:Env)(x:AX)(b:Array Nat)(d:Array Oper)(h0:AH):List DA->List Oper->Nat->Tr AV->List DQ->List (Nat×AH)->List (Nat×Nat×AO)->AH->RP
 |_,[],_,tm,e,j,ps,h=>cond (oK b j.reverse) (some (tm,oW ps h,zV E b j.reverse h0 e)) none
 |[],_::_,_,_,_,_,_,_=>none
 |a::as,o::os,i,tm,e,j,ps,h=>match a with
  | .s=>RP.add [eX o d tm=some false] (Ar P E x b d h0 as os (Nat.succ i) (fin x o.dst gH tm) e j ps h)
  | .v v=>cond (kI o.op) none (RP.add [eX o d tm=some true,fA o.op E tm h=some v] (Ar P E x b d h0 as os (Nat.succ i) (fin x o.dst v tm) (cond (oD o.op) (⟨o.op,i,tm,v⟩::e) e) j ps h))
  | .l v h'=>cond (kI o.op) (cond (Nat.blt h.nx 1000000) (RP.add [eX o d tm=some true,fV o.op E tm h=some (.val v h')] (Ar P E x b d h0 as os (Nat.succ i) (fin x o.dst v tm) e j ((i,h.nx,h'.obj h.nx)::ps) ⟨h.tr,h'.nx,h'.df⟩)) none) (match wake (b.getD i 0) ps h with
    |(m,ps)=>RP.add [eX o d tm=some true,fA o.op E tm h=none,fV o.op E tm m=some (.val v h')] (Ar P E x b d h0 as os (Nat.succ i) (fin x o.dst v tm) e ((i,h')::j) ps h'))
  | .k v h'=>cond (kI o.op) none (match eX o d tm,fA o.op E tm h with
    |some true,none=>(match wake (b.getD i 0) ps h with
     |(m,ps)=>(match fV o.op E tm m with
      |some (.call g args)=>(match E.ft.get g with
       |some ⟨some _,_,_,_⟩=>RP.add [DoesC P E g args m v h'] (Ar P E x b d h0 as os (Nat.succ i) (fin x o.dst v tm) e ((i,h')::j) ps h')
       |_=>none)
      |_=>none))
    |_,_=>none)
  | .c=>match eX o d tm with
    |none=>none
    |some false=>Ar P E x b d h0 as os (Nat.succ i) (fin x o.dst gH tm) e j ps h
    |some true=>cond (kI o.op)
     (match fV o.op E tm h with
      |some (.val v h')=>cond (Nat.blt h.nx 1000000) (Ar P E x b d h0 as os (Nat.succ i) (fin x o.dst v tm) e j ((i,h.nx,h'.obj h.nx)::ps) ⟨h.tr,h'.nx,h'.df⟩) none
      |_=>none)
     (match fA o.op E tm h with
      |some v=>Ar P E x b d h0 as os (Nat.succ i) (fin x o.dst v tm) (cond (oD o.op) (⟨o.op,i,tm,v⟩::e) e) j ps h
      |none=>(match wake (b.getD i 0) ps h with
       |(h,ps)=>(match vE E ⟨λ_ _ _=>none,λ_ _ _=>none⟩ h (fV o.op E tm h)with
        |some p=>Ar P E x b d h0 as os (Nat.succ i) (fin x o.dst p.1 tm) e ((i,p.2)::j) ps p.2
        |none=>none)))
noncomputable def Cb(P:Program)(E:Env)(a:Kk)(f:AF)(h:AH):Option (AF×AH×List Prop):=
 match a with
 | .n k=>(match goN E k f h with |some (f',h')=>some (f',h',[])|none=>none)
 | .br b=>(match f with
   |⟨x,tm,.code (.cond c p q)::k,ds,false⟩=>some (⟨x,tm,.code (cond b p q)::k,ds,false⟩,h,[ev tm c= .bool b])
   |_=>none)
 | .s=>(match f with
   |⟨x,tm,.inRegion e (o::rest)::k,ds,false⟩=>some (⟨x,fin x o.dst gH tm,JE e rest k,ds,false⟩,h,[eX o e tm=some false])
   |_=>none)
 | .v v=>(match f with
   |⟨x,tm,.inRegion e (o::rest)::k,ds,false⟩=>some (⟨x,fin x o.dst v tm,JE e rest k,ds,false⟩,h,[eX o e tm=some true,fA o.op E tm h=some v])
   |_=>none)
 | .l v h'=>(match f with
   |⟨x,tm,.inRegion e (o::rest)::k,ds,false⟩=>some (⟨x,fin x o.dst v tm,JE e rest k,ds,false⟩,h',[eX o e tm=some true,fA o.op E tm h=none,fV o.op E tm h=some (.val v h')])
   |_=>none)
 | .k v h'=>(match iw E f h with
   |some (.call f' d g args h1)=>some (vZ (f',d) v,h',[DoesC P E g args h1 v h'])
   |_=>none)
 | .d l=>(match iw E f h with
   |some (.drawn x tm e k ds h1)=>cond (yu e.toList (Region.before e) e) (match Ar P E x (Region.before e) e h1 l e.toList 0 tm [] [] [] h1 with
    |some (i,h2,obs)=>some (⟨x,i,k,ds,false⟩,h2,obs)
    |none=>none) none
   |_=>none)
noncomputable def sj(P:Program)(E:Env):List Kk->AF->AH->Option (AF×AH×List Prop)
 |[],f,h=>some (f,h,[])
 |a::l,f,h=>match Cb P E a f h with
  |some (b,h1,c)=>(match sj P E l b h1 with
   |some (d,h2,o2)=>some (d,h2,c++o2)
   |none=>none)
  |none=>none
def All:List Prop->Prop
 |[]=>True
 |[p]=>p
 |p::q::l=>p∧All (q::l)
theorem All.mem:∀{l:List Prop},All l->∀p∈l,p
 |[],_,_,hp=>by cases hp
 |[q],h,p,hp=>by rw[bR]at hp;rw[hp];exact h
 |q::r::l,h,p,hp=>by
  rcases ay.1 hp with rfl|hp
  .exact h.1
  .exact All.mem h.2 p hp
section
variable{P:Program}{E:Env}{f Y:AF}{h Z W X:AH}{v u:AV}
theorem Wt(F:Fits P E)(FF:dM P E):∀(k:Nat) (f:AF) (h:AH),goN E k f h=some (Y,Z)->DoesS P E f h Y Z
 |0,f,h,e=>by cases e;exact DoesS.refl _ _
 |k+1,f,h,e=>by
  have e:(match iw E f h with |some (.go Y X)=>goN E k Y X|_=>none)=some (Y,Z):=e;split at e
  .rename_i a W b;exact(DoesS.go F FF b).trans (Wt F FF k a W e)
  .cases e
open Classical in
noncomputable def rOf(P:Program)(E:Env)(l:List DA)(i:Nat):yj:=⟨λg args h=>match l[i]? with
 |some (.k v X)=>if DoesC P E g args h v X then some (v,X)else none
 |_=>none,λ_ _ _=>none⟩
theorem Rl{l:List DA}{args:List AV}{p:AV×AH}(e:(rOf P E l i).call g args h=some p):DoesC P E g args h p.1 p.2:=by
 simp only[rOf]at e;split at e
 .split at e
  .rename_i a;cases e;exact a
  .cases e
 .cases e
theorem aa7(l:List DA)(i:Nat):BR P true E (rOf P E l i):=⟨λg args h p e=>(Rl e).2,λl args h p e=>by cases e⟩
theorem aa6(l:List DA)(i:Nat):(rOf P E l i).Up:=⟨λg args h p e=>(Rl e).1,λl args h p e=>by cases e⟩
theorem RP.Df{l:List Prop}{r:RP}{tm:Tr AV}{a:AH}{obs:List Prop}(e:RP.add l r=some (tm,a,obs)):∃m,r=some (tm,a,m)∧obs=l++m:=by
 unfold RP.add at e;split at e
 .cases e;exact⟨_,rfl,rfl⟩
 .cases e
mutual
theorem AV.beq_refl:∀a:AV,AV.beq a a=true
 | .any| .one| .nQ| .aM| .emp| .nT| .sD| .kH=>by simp[AV.beq]
 | .bool _| .int _ _| .str _=>by simp[AV.beq]
 | .ptr _ _| .sl _ _ _ _| .map _| .yield _| .aO _ _ _=>by simp[AV.beq]
 | .fn _ a b=>by simp[AV.beq,AV.xB a,AV.xB b]
 | .iface _ v=>by simp[AV.beq,AV.beq_refl v]
 | .agg l=>by simp[AV.beq,AV.xB l]
 | .bV l=>by simp[AV.beq,AV.xB l]
theorem AV.xB:∀l:List AV,AV.zn l l=true
 |[]=>by simp[AV.zn]
 |a::l=>by simp[AV.zn,AV.beq_refl a,AV.xB l]
end
theorem JU{q:DQ}(e:fA q.op E q.tm h=some q.v):BM E q h=true:=by unfold BM;rw[e];exact AV.beq_refl _
theorem zW{b:Array Nat}{q:DQ}:∀(l:List (Nat×AH)),(∀p∈Ed E b q l,p)->r9 E b q l=true
 |[],_=>rfl
 |p::l,H=>by
  unfold Ed at H;unfold r9;cases a:((b.getD p.1 0).testBit q.i||l.any λx=>(b.getD q.i 0).testBit x.1)with
  |true=>rw[a]at H;simp only[bA]at H ⊢;exact zW l H
  |false=>
   rw[a]at H;simp only[bC]at H ⊢;rw[JU (H _ (bK ..)),zW l λp hp=>H p (bg _ hp)];rfl
theorem Bq{b:Array Nat}{a:List (Nat×AH)}{h0:AH}:∀(c:List DQ),(∀p∈zV E b a h0 c,p)->c.all (qE E b a h0)=true
 |[],_=>rfl
 |q::c,H=>by
  unfold zV at H;simp only[List.all_cons];cases d:(a.any λp=>(b.getD q.i 0).testBit p.1)with
  |true=>
   rw[d]at H;simp only[bA]at H;rw[Bq c λp hp=>H p (gJ _ hp)];unfold qE;rw[d,zW a λp hp=>H p (jO _ hp)];rfl
  |false=>
   rw[d]at H;simp only[bC]at H;rw[Bq c λp hp=>H p (bg _ (gJ _ hp))];unfold qE;rw[d,zW a λp hp=>H p (bg _ (jO _ hp)),bC,JU (H _ (bK ..))];rfl
theorem Py{r:yj}{o:Option OR}{p:AV×AH}(e:vE E ⟨λ_ _ _=>none,λ_ _ _=>none⟩ h o=some p):vE E r h o=some p:=by
 unfold vE at e ⊢;split at e
 .exact e
 .split at e
  .cases e
  .exact e
  .cases e
 .cases e
 .cases e
theorem Yx{x:AX}{b:Array Nat}{h0:AH}(L:List DA):∀(as:List DA) (os:List Oper) (i:Nat) (tm:Tr AV) (D:List DQ) (C:List (Nat×AH)) (ps:List (Nat×Nat×AO)) (h:AH) (w:Tr AV) (X:AH) (obs:List Prop),
 (∀j a,as[j]? =some a->L[i+j]? =some a)->Ar P E x b ops h0 as os i tm D C ps h=some (w,X,obs)->(∀p∈obs,p)->wQ E (rOf P E L) x b ops h0 os i tm D C ps h=some (w,X):=by
 intro as os;induction os generalizing as with
 |nil=>
  intro i tm D C ps h w X obs I e H;have e:cond (oK b C.reverse) (some (tm,oW ps h,zV E b C.reverse h0 D)) none=some (w,X,obs):=by
   cases as<;>exact e
  cases J:oK b C.reverse with
  |false=>rw[J]at e;cases e
  |true=>
   rw[J]at e;cases e;unfold wQ;rw[J,Bq D H];rfl
 |cons o os A=>
  intro i tm D C ps h w X obs I e H;cases as with
  |nil=>cases e
  |cons a as=>
   have d:∀j a,as[j]? =some a->L[Nat.succ i+j]? =some a:=λj a hj=>by
    have:=I (j+1) a (by simpa using hj);rw[← this];congr 1;omega
   have K:L[i]? =some a:=by have:=I 0 a rfl;simpa using this
   unfold wQ;cases a with
   |s=>
    obtain⟨m,e1,rfl⟩:=RP.Df (r:=Ar P E x b ops h0 as os (Nat.succ i) (fin x o.dst gH tm) D C ps h) e;have t:eX o ops tm=some false:=H _ (by simp);rw[t];exact A as _ _ _ _ _ _ _ _ _ d e1 λp hp=>H p (by simp[hp])
   |v v=>
    unfold Ar at e;cases y:kI o.op with
    |true=>rw[y]at e;cases e
    |false=>
     rw[y]at e;simp only[bC]at e;obtain⟨m,e1,rfl⟩:=RP.Df e;have t:eX o ops tm=some true:=H _ (by simp);have B:fA o.op E tm h=some v:=H _ (by simp);rw[t,B];simp only[bC];exact A as _ _ _ _ _ _ _ _ _ d e1 λp hp=>H p (by simp[hp])
   |l v Z=>
    unfold Ar at e;cases y:kI o.op with
    |true=>
     rw[y]at e;simp only[bA]at e;cases F:Nat.blt h.nx 1000000 with
     |false=>rw[F]at e;cases e
     |true=>
      rw[F]at e;simp only[bA]at e;obtain⟨m,e1,rfl⟩:=RP.Df e;have t:eX o ops tm=some true:=H _ (by simp);have G:fV o.op E tm h=some (.val v Z):=H _ (by simp);rw[t];simp only[bA,G,F];exact A as _ _ _ _ _ _ _ _ _ d e1 λp hp=>H p (by simp[hp])
    |false=>
     rw[y]at e;simp only[bC]at e;cases q:wake (b.getD i 0) ps h with
     |mk z ps0=>
     rw[q]at e;simp only at e;obtain⟨m,e1,rfl⟩:=RP.Df e;have t:eX o ops tm=some true:=H _ (by simp);have B:fA o.op E tm h=none:=H _ (by simp);have G:fV o.op E tm z=some (.val v Z):=H _ (by simp);rw[t,B];simp only[bC,q,G,vE];exact A as _ _ _ _ _ _ _ _ _ d e1 λp hp=>H p (by simp[hp])
   |k v Z=>
    unfold Ar at e;cases y:kI o.op with
    |true=>rw[y]at e;cases e
    |false=>
     rw[y]at e;simp only[bC]at e;split at e
     .rename_i t B
      cases q:wake (b.getD i 0) ps h with
      |mk z ps0=>
      rw[q]at e;simp only at e;split at e
      .rename_i g args G
       split at e
       .rename_i c n Q ex N
        obtain⟨m,e1,rfl⟩:=RP.Df e;have M:DoesC P E g args z v Z:=H _ (by simp);rw[t,B];simp only[bC,q,G,vE,N];have:(rOf P E L i).call g args z=some (v,Z):=by
         simp only[rOf,K];rw[aH M]
        rw[this];exact A as _ _ _ _ _ _ _ _ _ d e1 λp hp=>H p (by simp[hp])
       .cases e
      .cases e
     .cases e
   |c=>
    unfold Ar at e;simp only at e;cases t:eX o ops tm with
    |none=>rw[t]at e;cases e
    |some O=>
     cases O with
     |false=>rw[t]at e;exact A as _ _ _ _ _ _ _ _ _ d e H
     |true=>
      rw[t]at e;simp only at e ⊢;cases y:kI o.op with
      |true=>
       rw[y]at e;simp only[bA]at e ⊢;split at e
       .rename_i v1 Z G
        rw[G];cases F:Nat.blt h.nx 1000000 with
        |false=>rw[F]at e;cases e
        |true=>rw[F]at e;simp only[F,bA]at e ⊢;exact A as _ _ _ _ _ _ _ _ _ d e H
       .cases e
      |false=>
       rw[y]at e;simp only[bC]at e ⊢;split at e
       .rename_i v1 B
        rw[B];exact A as _ _ _ _ _ _ _ _ _ d e H
       .rename_i B
        rw[B];cases q:wake (b.getD i 0) ps h with
        |mk z ps0=>
        rw[q]at e;simp only at e ⊢;split at e
        .rename_i p hp
         rw[Py hp];exact A as _ _ _ _ _ _ _ _ _ d e H
        .cases e
theorem Vo(F:Fits P E)(FF:dM P E){a:Kk}(e:Cb P E a f h=some (Y,Z,obs))(H:∀p∈obs,p):DoesS P E f h Y Z:=by
 cases a with
 |n k=>
  simp only[Cb]at e;split at e
  .rename_i A;cases e;exact Wt F FF _ _ _ A
  .cases e
 |br b=>
  simp only[Cb]at e;split at e
  .rename_i x tm c p q k ds
   cases e;have m:ev tm c= .bool b:=H _ (by simp);refine DoesS.go F FF (f':=⟨x,tm,.code (cond b p q)::k,ds,false⟩) (h1:=h) ?_;show(match ev tm c with | .bool t=>some (A1.go ⟨x,tm,.code (cond t p q)::k,ds,false⟩ h)|_=>none)=_;rw[m]
  .cases e
 |s=>
  simp only[Cb]at e;split at e
  .rename_i x tm g o i k ds
   cases e;have r:eX o g tm=some false:=H _ (by simp);refine DoesS.go F FF (f':=⟨x,fin x o.dst gH tm,JE g i k,ds,false⟩) (h1:=h) ?_;show oC E x tm ds h k g o i=_;unfold oC;rw[r]
  .cases e
 |v w=>
  simp only[Cb]at e;split at e
  .rename_i x tm g o i k ds
   cases e;have r:eX o g tm=some true:=H _ (by simp);have y:fA o.op E tm h=some w:=H _ (by simp);refine DoesS.go F FF (f':=⟨x,fin x o.dst w tm,JE g i k,ds,false⟩) (h1:=h) ?_;show oC E x tm ds h k g o i=_;unfold oC;rw[r];simp only;unfold YP;rw[y]
  .cases e
 |l w W=>
  simp only[Cb]at e;split at e
  .rename_i x tm g o i k ds
   cases e;have r:eX o g tm=some true:=H _ (by simp);have y:fA o.op E tm h=none:=H _ (by simp);have B:fV o.op E tm h=some (.val w Z):=H _ (by simp);refine DoesS.go F FF (f':=⟨x,fin x o.dst w tm,JE g i k,ds,false⟩) (h1:=Z) ?_;show oC E x tm ds h k g o i=_;unfold oC;rw[r];simp only;unfold YP;rw[y,B];rfl
  .cases e
 |k w W=>
  simp only[Cb]at e;split at e
  .rename_i z
   cases e;exact DoesS.call F FF z (H _ (by simp))
  .cases e
 |d l=>
  simp only[Cb]at e;split at e
  .rename_i x tm g k ds W z
   cases m:yu g.toList (Region.before g) g with
   |false=>rw[m]at e;cases e
   |true=>
    rw[m]at e;simp only[bA]at e;split at e
    .rename_i C D ob hr
     cases e;exact DoesS.drawn F FF z m (aa7 l) (aa6 l) (Yx l l _ _ _ _ _ _ _ _ _ _ (λj a hj=>by simpa using hj) hr H)
    .cases e
  .cases e
theorem path_ok(F:Fits P E)(FF:dM P E):∀(l:List Kk) (f:AF) (h:AH) {Y:AF} {Z:AH} {obs:List Prop},sj P E l f h=some (Y,Z,obs)->All obs->DoesS P E f h Y Z:=by
 intro l;induction l with
 |nil=>intro f h Y Z obs e _;cases e;exact DoesS.refl _ _
 |cons a l b=>
  intro f h Y Z obs e H;unfold sj at e;split at e
  .rename_i i W j g
   split at e
   .rename_i k m o2 he2
    cases e;have d:=All.mem H;refine(Vo F FF g (λp hp=>d p (jO _ hp))).trans (b _ _ he2 ?_);have:∀(l:List Prop),(∀p∈l,p)->All l:=by
     intro l;induction l with
     |nil=>intro _;trivial
     |cons p l b=>
      intro c;cases l with
      |nil=>exact c p (by simp)
      |cons q l=>exact⟨c p (by simp),b λr hr=>c r (bg _ hr)⟩
    exact this o2 λp hp=>d p (gJ _ hp)
   .cases e
  .cases e
end
end
section
open Go.Conc (G)
mutual
def AV.ren(ρ:Nat->Nat):AV->AV
 | .ptr i o=> .ptr (ρ i) o
 | .sl i o l c=> .sl (ρ i) o l c
 | .map i=> .map (ρ i)
 | .yield i=> .yield (ρ i)
 | .fn f l m=> .fn f (AV.jC ρ l) (AV.jC ρ m)
 | .iface t v=> .iface t (AV.ren ρ v)
 | .agg l=> .agg (AV.jC ρ l)
 | .bV l=> .bV (AV.jC ρ l)
 |v=>v
def AV.jC(ρ:Nat->Nat):List AV->List AV
 |[]=>[]
 |v::l=>AV.ren ρ v::AV.jC ρ l
end
def AO.ren(ρ:Nat->Nat):AO->AO
 | .dead=> .dead
 | .cells vs e g z=> .cells (AV.jC ρ vs) e g z
 | .map es c=> .map (es.map λe=>⟨e.key.ren ρ,e.val.ren ρ,e.born⟩) c
 | .GR m s l p=> .GR (match m with |some i=>some (ρ i)|none=>none) s l p
 | .sit s p=> .sit s p
 | .loop st p fn nt tm ps x y d=> .loop st p fn nt (wX (AV.ren ρ) tm) ps x y (ρ d)
 | .rz z=> .rz z
mutual
def AV.low(n:Nat):AV->Bool
 | .ptr i _| .sl i _ _ _| .map i| .yield i=>Nat.blt i n||Nat.ble OLD i
 | .fn _ a b=>AV.dX n a&&AV.dX n b
 | .iface _ v=>AV.low n v
 | .agg l| .bV l=>AV.dX n l
 |_=>true
def AV.dX(n:Nat):List AV->Bool
 |[]=>true
 |a::l=>AV.low n a&&AV.dX n l
end
def yO(n:Nat):Tr AV->Bool
 | .e=>true
 | .n l v r=>yO n l&&(match v with |some a=>AV.low n a|none=>true)&&yO n r
def YW(n i:Nat):Bool:=Nat.blt i n||Nat.ble OLD i
def AO.low(n:Nat):AO->Bool
 | .cells vs _ _ _=>AV.dX n vs
 | .map es _=>es.all λe=>e.key.low n&&e.val.low n
 | .GR (some m) _ _ _=>YW n m
 | .loop _ _ _ _ tm _ _ _ d=>yO n tm&&YW n d
 |_=>true
def fH(n:Nat):Tr AO->Bool
 | .e=>true
 | .n l v r=>fH n l&&(match v with |some o=>AO.low n o|none=>true)&&fH n r
def zK(n:Nat)(ρ:Nat->Nat)(ι ι0:Nm):Prop:=∀i p,(i<n∨OLD<=i)->ι (ρ i)=some p->ι0 i=some p
section
variable{n:Nat}{ρ:Nat->Nat}{ι Z:Nm}
theorem w9{n i:Nat}(h:(Nat.blt i n||Nat.ble OLD i)=true):i<n∨OLD<=i:=by
 simp only[eD]at h;exact h.imp (λh=>by rwa[cO]at h) aF
mutual
theorem RV.iX(H:zK n ρ ι Z):∀{x:AV} {v:Value},x.low n=true->RV ι (x.ren ρ) v->RV Z x v
 | .any,_,_,_=>by unfold RV;trivial
 | .one,_,_,h| .bool _,_,_,h| .int _ _,_,_,h| .str _,_,_,h| .nQ,_,_,h| .aM,_,_,h| .emp,_,_,h| .nT,_,_,h| .sD,_,_,h| .kH,_,_,h| .aO _ _ _,_,_,h=>by
   unfold AV.ren at h;unfold RV at h ⊢;exact h
 | .ptr i o,v,a,h=>by
   unfold AV.ren at h;unfold RV at h ⊢;obtain⟨p,hi,e⟩:=h;exact⟨p,H i p (w9 a) hi,e⟩
 | .sl i o l c,v,a,h=>by
   unfold AV.ren at h;unfold RV at h ⊢;obtain⟨p,hi,e⟩:=h;exact⟨p,H i p (w9 a) hi,e⟩
 | .map i,v,a,h=>by
   unfold AV.ren at h;unfold RV at h ⊢;obtain⟨p,hi,e⟩:=h;exact⟨p,H i p (w9 a) hi,e⟩
 | .yield i,v,a,h=>by
   unfold AV.ren at h;unfold RV at h ⊢;obtain⟨p,hi,e⟩:=h;exact⟨p,H i p (w9 a) hi,e⟩
 | .fn f l m,v,a,h=>by
   unfold AV.low at a;simp only[av]at a;unfold AV.ren at h;unfold RV at h ⊢;obtain⟨as,bs,e,h1,b⟩:=h;exact⟨as,bs,e,dJ.iX H a.1 h1,dJ.iX H a.2 b⟩
 | .iface t x,v,a,h=>by
   unfold AV.low at a;unfold AV.ren at h;unfold RV at h ⊢;obtain⟨y,e,h1⟩:=h;exact⟨y,e,RV.iX H a h1⟩
 | .agg l,v,a,h=>by
   unfold AV.low at a;unfold AV.ren at h;unfold RV at h ⊢;obtain⟨y,e,h1⟩:=h;exact⟨y,e,dJ.iX H a h1⟩
 | .bV l,v,a,h=>by
   unfold AV.low at a;unfold AV.ren at h;unfold RV at h ⊢;obtain⟨y,e,h1⟩:=h;exact⟨y,e,dJ.iX H a h1⟩
theorem dJ.iX(H:zK n ρ ι Z):∀{l:List AV} {vs:List Value},AV.dX n l=true->dJ ι (AV.jC ρ l) vs->dJ Z l vs
 |[],_,_,h=>by unfold AV.jC at h;rw[bJ h];exact bS
 |x::l,_,a,h=>by
  unfold AV.dX at a;simp only[av]at a;unfold AV.jC at h;obtain⟨v,r,rfl,h1,b⟩:=aX h;exact bQ (RV.iX H a.1 h1) (dJ.iX H a.2 b)
end
def QA(ρ:Nat->Nat)(Z ι:Nm):Prop:=∀i p,Z i=some p->ι (ρ i)=some p
mutual
theorem RV.ren(H:QA ρ Z ι):∀{x:AV} {v:Value},RV Z x v->RV ι (x.ren ρ) v
 | .any,_,_=>by unfold AV.ren RV;trivial
 | .one,_,h| .bool _,_,h| .int _ _,_,h| .str _,_,h| .nQ,_,h| .aM,_,h| .emp,_,h| .nT,_,h| .sD,_,h| .kH,_,h| .aO _ _ _,_,h=>by
   unfold AV.ren;unfold RV at h ⊢;exact h
 | .ptr i o,v,h=>by
   unfold AV.ren;unfold RV at h ⊢;obtain⟨p,hi,e⟩:=h;exact⟨p,H i p hi,e⟩
 | .sl i o l c,v,h=>by
   unfold AV.ren;unfold RV at h ⊢;obtain⟨p,hi,e⟩:=h;exact⟨p,H i p hi,e⟩
 | .map i,v,h=>by
   unfold AV.ren;unfold RV at h ⊢;obtain⟨p,hi,e⟩:=h;exact⟨p,H i p hi,e⟩
 | .yield i,v,h=>by
   unfold AV.ren;unfold RV at h ⊢;obtain⟨p,hi,e⟩:=h;exact⟨p,H i p hi,e⟩
 | .fn f l m,v,h=>by
   unfold AV.ren;unfold RV at h ⊢;obtain⟨as,bs,e,h1,a⟩:=h;exact⟨as,bs,e,dJ.ren H h1,dJ.ren H a⟩
 | .iface t x,v,h=>by
   unfold AV.ren;unfold RV at h ⊢;obtain⟨y,e,h1⟩:=h;exact⟨y,e,RV.ren H h1⟩
 | .agg l,v,h=>by
   unfold AV.ren;unfold RV at h ⊢;obtain⟨y,e,h1⟩:=h;exact⟨y,e,dJ.ren H h1⟩
 | .bV l,v,h=>by
   unfold AV.ren;unfold RV at h ⊢;obtain⟨y,e,h1⟩:=h;exact⟨y,e,dJ.ren H h1⟩
theorem dJ.ren(H:QA ρ Z ι):∀{l:List AV} {vs:List Value},dJ Z l vs->dJ ι (AV.jC ρ l) vs
 |[],_,h=>by unfold AV.jC;rw[bJ h];exact bS
 |x::l,_,h=>by
  obtain⟨v,r,rfl,h1,a⟩:=aX h;unfold AV.jC;exact bQ (RV.ren H h1) (dJ.ren H a)
end
theorem vB(ρ:Nat->Nat):∀l:List AV,(AV.jC ρ l).length=l.length
 |[]=>by unfold AV.jC;rfl
 |x::l=>by unfold AV.jC;simp[vB ρ l]
theorem uj:∀{t:Tr AV},yO n t=true->∀{i:Nat} {a:AV},t.get i=some a->a.low n=true
 | .e,_,i,a,e=>by rw[Tr.dN]at e;cases e
 | .n l v r,h,i,a,e=>by
   unfold yO at h;simp only[av]at h;rw[Tr.jh]at e;split at e
   .subst e;exact h.1.2
   .split at e
    .exact uj h.1.1 e
    .exact uj h.2 e
theorem nX:∀{t:Tr AO},fH n t=true->∀{i:Nat} {o:AO},t.get i=some o->o.low n=true
 | .e,_,i,a,e=>by rw[Tr.dN]at e;cases e
 | .n l v r,h,i,a,e=>by
   unfold fH at h;simp only[av]at h;rw[Tr.jh]at e;split at e
   .subst e;exact h.1.2
   .split at e
    .exact nX h.1.1 e
    .exact nX h.2 e
theorem RT.iX(H:zK n ρ ι Z){nt:Nat}{tm:Tr AV}{tmps:Array Value}(b:yO n tm=true)(h:RT ι nt (wX (AV.ren ρ) tm) tmps):RT Z nt tm tmps:=by
 refine⟨h.1,λt x a=>?_⟩;exact RV.iX H (uj b a) (h.2 t (x.ren ρ) (by rw[pq,a];rfl))
theorem RT.ren(H:QA ρ Z ι){nt:Nat}{tm:Tr AV}{tmps:Array Value}(h:RT Z nt tm tmps):RT ι nt (wX (AV.ren ρ) tm) tmps:=by
 refine⟨h.1,λt x a=>?_⟩;rw[pq]at a;obtain⟨y,b,rfl⟩:=aN.1 a;exact(h.2 t y b).ren H
theorem vW.iX(H:zK n ρ ι Z){l:List AE}{es:List MapEntry}(a:(l.all λe=>e.key.low n&&e.val.low n)=true)(h:vW ι (l.map λe=>⟨e.key.ren ρ,e.val.ren ρ,e.born⟩) es):vW Z l es:=by
 induction l generalizing es with
 |nil=>exact h
 |cons x l b=>
  simp only[List.all_cons,av]at a;obtain⟨e,r,rfl,h1,c,d,f⟩:=h;exact⟨e,r,rfl,RV.iX H a.1.1 h1,RV.iX H a.1.2 c,d,b (by simpa using a.2) f⟩
theorem vW.ren(H:QA ρ Z ι){l:List AE}{es:List MapEntry}(h:vW Z l es):vW ι (l.map λe=>⟨e.key.ren ρ,e.val.ren ρ,e.born⟩) es:=by
 induction l generalizing es with
 |nil=>exact h
 |cons x l a=>
  obtain⟨e,r,rfl,h1,b,c,d⟩:=h;exact⟨e,r,rfl,h1.ren H,b.ren H,c,a d⟩
theorem AO.dS{o:AO}:(o.ren ρ).live↔o.live:=by cases o<;>exact Iff.rfl
theorem RO.iX{P:Program}{cap:Nat}(H:zK n ρ ι Z){o:AO}{ob:Obj}(a:o.low n=true)(h:RO P ι cap (o.ren ρ) ob):RO P Z cap o ob:=by
 cases o with
 |dead=>trivial
 |cells vs el g fz=>
  obtain⟨c,lo,f,e,⟨l1,l2,e2,l⟩,h1,b,i⟩:=h;exact⟨c,lo,f,e,⟨l1,l2,e2,l.iX H a⟩,λr=>by have:=h1 r;rwa[vB]at this,b,i⟩
 |map es ck=>obtain⟨k,e,h1⟩:=h;exact⟨k,e,h1.iX H a⟩
 |GR m s seen st=>
  obtain⟨x,h1,b,e⟩:=h;refine⟨x,λj hj=>?_,λt=>?_,e⟩
  .subst hj
   obtain⟨p,hp,u⟩:=h1 (ρ j) rfl;exact⟨p,H j p (w9 a) hp,u⟩
  .subst t;exact b rfl
 |sit s p=>exact h
 |loop st E fn nt tm ps x y d=>
  obtain⟨q,v,L,e,h1,b,i,w,A,B,C,D⟩:=h;unfold AO.low at a;simp only[av]at a;exact⟨q,H d q (w9 a.2) v,L,e,h1,b,i,w.iX H a.1,A,B,C,D⟩
 |rz z=>exact h
theorem RO.ren{P:Program}{cap:Nat}(H:QA ρ Z ι){o:AO}{ob:Obj}(h:RO P Z cap o ob):RO P ι cap (o.ren ρ) ob:=by
 cases o with
 |dead=>trivial
 |cells vs el g fz=>
  obtain⟨c,lo,b,e,⟨l1,l2,e2,l⟩,h1,a,f⟩:=h;exact⟨c,lo,b,e,⟨l1,l2,e2,l.ren H⟩,λr=>by rw[vB];exact h1 r,a,f⟩
 |map es ck=>obtain⟨k,e,h1⟩:=h;exact⟨k,e,h1.ren H⟩
 |GR m s seen st=>
  obtain⟨x,h1,a,e⟩:=h;refine⟨x,λj hj=>?_,λt=>?_,e⟩
  .cases m with
   |none=>cases hj
   |some i=>cases hj;obtain⟨p,hp,u⟩:=h1 i rfl;exact⟨p,H i p hp,u⟩
  .cases m with
   |none=>exact a rfl
   |some i=>cases t
 |sit s p=>exact h
 |loop st E fn nt tm ps x y d=>
  obtain⟨q,v,L,e,h1,a,f,w,A,B,C,D⟩:=h;exact⟨q,H d q v,L,e,h1,a,f,w.ren H,A,B,C,D⟩
 |rz z=>exact h
end
structure QE(ρ:Nat->Nat)(h0 h0' h h':AH):Prop where
 le0:h0.nx<=h0'.nx
 top:h0'.nx<=OLD
 top':h'.nx<=OLD
 inj:∀i j,i<h0'.nx->j<h0'.nx->ρ i=ρ j->i=j
 low:∀i,i<h0.nx->ρ i<h.nx
 new:∀i,h0.nx<=i->i<h0'.nx->h.nx<=ρ i∧ρ i<h'.nx
 old:∀i,OLD<=i->ρ i=i
 le:h.nx<=h'.nx
 names:∀i o,h0.tr.get i=some o->o.live->i<h0.nx
 names':∀i o,h0'.tr.get i=some o->o.live->i<h0'.nx
 before:∀i o,h0.tr.get i=some o->o.live->h.tr.get (ρ i)=some (o.ren ρ)
 behind:∀i o,h'.tr.get i=some o->o.live->(∃j o0,h0'.tr.get j=some o0∧i=ρ j∧o=o0.ren ρ)∨(h.tr.get i=some o∧∀j o0,h0.tr.get j=some o0->o0.live->i≠ρ j)
 df:h0.df=h.df
 df':h0'.df=h'.df
 TU:fH h0.nx h0.tr=true
theorem DoesC.frame{P:Program}{E:Env}{g:FuncId}{xC:List AV}{h0:AH}{v0:AV}{e:AH}(C:DoesC P E g xC h0 v0 e){ρ:Nat->Nat}{h h':AH}(L:QE ρ h0 e h h')(ha:AV.dX h0.nx xC=true):
 DoesC P E g (AV.jC ρ xC) h (v0.ren ρ) h':=by
 refine⟨L.le,λK ι w vs c rest hP S M x hf=>?_⟩;let ι0:Nm:=λi=>if i<h0.nx∨OLD<=i then ι (ρ i)else none;have d:∀i,(i<h0.nx∨OLD<=i)->ι0 i=ι (ρ i):=λi hi=>aH hi;have m:∀i,¬(i<h0.nx∨OLD<=i)->ι0 i=none:=λi hi=>au hi;have J:zK h0.nx ρ ι ι0:=λi p hi hp=>by rw[d i hi];exact hp
 have hUp:QA ρ ι0 ι:=λi p hi=>by
  by_cases x:i<h0.nx∨OLD<=i
  .rw[d i x]at hi;exact hi
  .rw[m i x]at hi;cases hi
 have SM:sS K ι (λi o=>h.tr.get i=some o) w:=S.toM λ_ _ h _=>h;let X:Nat->Prop:=λi=>¬∃j r,h0.tr.get j=some r∧r.live∧i=ρ j;let N:=Ctx.less K ι (λi o=>h.tr.get i=some o) X w SM.lo SM.lt;have hsub:Sub N K:=sG;have S0:Sat N ι0 h0 w:=by
  refine⟨λi o hi s=>?_,λi j o G p q e1 e2 l1 l2 hp y v=>?_,ah _,S.bs,S.old,S.os,S.tape,S.output,λhk i p hi=>?_⟩
  .have hlt:=L.names i o hi s
   obtain⟨p,ob,e1,e2,D,F,H⟩:=S.objs (ρ i) (o.ren ρ) (L.before i o hi s) (AO.dS.2 s);refine⟨p,ob,by rw[d i (.inl hlt)];exact e1,e2,⟨D,λ⟨j,G,q,hx,hm,hl',y,hqp⟩=>?_⟩,F,RO.iX J (nX L.TU hi) H⟩;have:ρ i=j:=S.inj (ρ i) j _ G p q (L.before i o hi s) hm (AO.dS.2 s) hl' e1 y hqp.symm;exact hx ⟨i,o,hi,s,this.symm⟩
  .have h1:=L.names i o e1 l1
   have l:=L.names j G e2 l2;rw[d i (.inl h1)]at hp;rw[d j (.inl l)]at y;have:=S.inj (ρ i) (ρ j) _ _ p q (L.before i o e1 l1) (L.before j G e2 l2) (AO.dS.2 l1) (AO.dS.2 l2) hp y v;exact L.inj i j (by have:=L.le0;omega) (by have:=L.le0;omega) this
  .have hi':OLD<=i:=by
    unfold dI at hi;rcases aZ i OLD with h1|h1
    .rw[au (by omega)]at hi;cases hi
    .exact h1
   rw[d i (.inr hi'),L.old i hi'];exact S.jU hk i p hi
 have hP0:Of N P E:=⟨hP.P,hP.mem,hP.pk⟩;have I:dJ ι0 xC vs.toList:=dJ.iX J ha M;have hf0:Free ι0 h0.nx e.nx:=λi h1 l=>m i (λhx=>by have:=L.top;omega);have W:=C.2 N ι0 w vs c rest hP0 S0 I x hf0;rw[← L.df];refine W.frame hsub (Kept.refl _ _ _) ?_
 rintro d' g' w' z ⟨t,u,rfl,hg,O,hv,rfl⟩
 let inv:Nat->Option Nat:=λi=>(List.range e.nx).find? λj=>decide (h0.nx<=j∧ρ j=i);have hinv:∀j,h0.nx<=j->j<e.nx->inv (ρ j)=some j:=by
  intro j h1 l;show(List.range e.nx).find? _=some j;cases Q:(List.range e.nx).find? (λk=>decide (h0.nx<=k∧ρ k=ρ j))with
  |none=>
   have:=List.find?_eq_none.1 Q j (cZ.2 l);simp[h1]at this
  |some k=>
   have V:=List.find?_some Q;have h4:=cZ.1 (List.mem_of_find?_eq_some Q);simp at V;rw[L.inj k j h4 l V.2]
 let ι':Nm:=λi=>if h.nx<=i∧i<h'.nx then(match inv i with |some j=>t j|none=>none)else ι i;have f:∀i,¬(h.nx<=i∧i<h'.nx)->ι' i=ι i:=λi hi=>au hi;have R:∀j,h0.nx<=j->j<e.nx->ι' (ρ j)=t j:=λj h1 l=>by
  show(if h.nx<=ρ j∧ρ j<h'.nx then _ else _)=_;rw[aH (L.new j h1 l),hinv j h1 l]
 have T:Ext ι ι':=λi p hi=>by
  by_cases x:h.nx<=i∧i<h'.nx
  .rw[hf i x.1 x.2]at hi;cases hi
  .rw[f i x];exact hi
 have A:QA ρ t ι':=λi p hi=>by
  rcases aZ i h0.nx with h1|h1
  .rw[hg.same i (.inl h1),d i (.inl h1)]at hi
   rw[f (ρ i) (by have:=L.low i h1;omega)];exact hi
  .rcases aZ i e.nx with l|l
   .rw[R i h1 l];exact hi
   .rw[hg.same i (.inr l)]at hi
    by_cases x:i<h0.nx∨OLD<=i
    .rw[d i x]at hi
     have V:OLD<=i:=by omega
     rw[L.old i V]at hi ⊢;rw[f i (by have:=L.top';omega)];exact hi
    .rw[m i x]at hi;cases hi
 have old:∀i o,h.tr.get i=some o->X i->o.live->∃p ob,ι i=some p∧¬K.fz p.1∧K.own p.1∧w'.heap[p.1]? =some ob∧RO K.P ι p.2 o ob∧¬N.own p.1:=by
  intro i o h1 l s;obtain⟨p,ob,e1,e2,D,F,H⟩:=S.objs i o h1 s;have hn:¬N.own p.1:=λhx=>hx.2 ⟨i,o,p,l,h1,s,e1,rfl⟩;exact⟨p,ob,e1,e2,D,(z.same p.1 (lt_of_heap F) e2 D hn).trans F,H,hn⟩
 have new:∀j r,e.tr.get j=some r->r.live->∃p ob,t j=some p∧ι' (ρ j)=some p∧¬K.fz p.1∧N.own p.1∧w'.heap[p.1]? =some ob∧RO K.P ι' p.2 (r.ren ρ) ob:=by
  intro j r h1 s;obtain⟨p,ob,e1,e2,D,F,H⟩:=O.objs j r h1 s;exact⟨p,ob,e1,A j p e1,e2,D,F,RO.ren A H⟩
 have hX:∀i,(∀j r,h0.tr.get j=some r->r.live->i≠ρ j)->X i:=λi hi ⟨j,r,h1,l,V⟩=>hi j r h1 l V;refine⟨ι',u,rfl,⟨L.le,λi hi=>f i (by omega)⟩,⟨λi o hi s=>?_,λi j o G p q e1 e2 l1 l2 hp y v=>?_,aQ S.lo z.size,O.bs,O.old,O.os,O.tape,O.output,λhk=>(S.jU hk).trans T⟩,hv.ren A,by rw[L.df']⟩
 .rcases L.behind i o hi s with⟨j,r,h1,rfl,rfl⟩|⟨h1,l⟩
  .obtain⟨p,ob,_,e2,D,F,H,e6⟩:=new j r h1 (AO.dS.1 s)
   exact⟨p,ob,e2,D,F.1,H,e6⟩
  .obtain⟨p,ob,e1,e2,D,F,H,_⟩:=old i o h1 (hX i l) s
   exact⟨p,ob,T _ _ e1,e2,D,F,H.mono T⟩
 .rcases L.behind i o e1 l1 with⟨a,oa,U,rfl,rfl⟩|⟨U,g2⟩<;>rcases L.behind j G e2 l2 with⟨b,ob,k1,rfl,rfl⟩|⟨k1,k2⟩
  .obtain⟨p',_,Y,B,_⟩:=new a oa U (AO.dS.1 l1)
   obtain⟨q',_,m3,Z,_⟩:=new b ob k1 (AO.dS.1 l2);rw[hp]at B;cases B;rw[y]at Z;cases Z;rw[O.inj a b oa ob _ _ U k1 (AO.dS.1 l1) (AO.dS.1 l2) Y m3 v]
  .obtain⟨p',_,Y,B,_,m5,_⟩:=new a oa U (AO.dS.1 l1)
   obtain⟨q',_,m3,_,_,_,_,Z⟩:=old j G k1 (hX j k2) l2;rw[hp]at B;cases B;rw[T _ _ m3]at y;cases y;exact aP (v▸m5) Z
  .obtain⟨p',_,Y,B,_,m5,_⟩:=new b ob k1 (AO.dS.1 l2)
   obtain⟨q',_,m3,_,_,_,_,Z⟩:=old i o U (hX i g2) l1;rw[y]at B;cases B;rw[T _ _ m3]at hp;cases hp;exact aP (v▸m5) Z
  .obtain⟨p',_,Y,_⟩:=S.objs i o U l1
   obtain⟨q',_,B,_⟩:=S.objs j G k1 l2;rw[T _ _ Y]at hp;cases hp;rw[T _ _ B]at y;cases y;exact S.inj i j o G _ _ U k1 l1 l2 Y B v
end
section
open Go.Conc
open Go.Conc.Lib (WgLib WgLink)
variable{K:Ctx}{f f' f0:AF}{fid:FuncId}{gs:Array Goroutine}{h h' h2:AH}{s':OS}{v:AV}{ι:Nm}
noncomputable def UZ(ids:List Nat)(s:OS):OS:=match s with |⟨f,k,⟨tr,nx,df⟩⟩=>⟨f,k,⟨reach tr 100000 ids .e,nx,df⟩⟩
inductive Path(P:Program)(E:Env)(I:nN)(D:FuncId)(ty:TypeId)(out:List FuncId):OS->OS->Prop
 |run {s s':OS} (n m:Nat):Cj E (qW E n) out m s=s'->Path P E I D ty out s s'
 |spawn {s s':OS} (n m:Nat):Gx E I D ty n m out s=some s'->Path P E I D ty out s s'
 |gc {s s':OS} (ids:List Nat):UZ ids s=s'->Path P E I D ty out s s'
 |sem {s:OS} {f':AF} {h':AH}:DoesS P E s.f s.h f' h'->h'.nx<=OLD->Path P E I D ty out s ⟨f',s.k,h'⟩
 |trans {s s' s'':OS}:Path P E I D ty out s s'->Path P E I D ty out s' s''->Path P E I D ty out s s''
section
variable{P:Program}{E:Env}{I:nN}{W:World}{Y:Nat}{Z:List Frame}
theorem Ze(ids:List Nat){s:OS}{w:World}{sl:Option (Nat×Nat)}{t:Trace}(H:QD P E W Y Z s gs w sl t):QD P E W Y Z (UZ ids s) gs w sl t:=by
 obtain⟨f,k,tr,nx,df⟩:=s;obtain⟨K,Shun,a,q,h1,c,d,g,h0,⟨ι,fr,b,k1,j,l,m,n,p,r⟩,u,v⟩:=H;refine⟨K,Shun,a,q,h1,c,d,g,h0,⟨ι,fr,b,k1,j,l,m,?_,p,r⟩,u,v⟩;exact(n.toM (M:=λi o=>tr.get i=some o) λ_ _ h _=>h).Mi λi o e _=>oH (t:=tr) 100000 ids .e (λi o h=>by rw[Tr.dN]at h;cases h) i o e
theorem Vt{s:OS}(A:DoesS P E s.f s.h f' h')(n:h'.nx<=OLD){w:World}{sl:Option (Nat×Nat)}{t:Trace}(H:QD P E W Y Z s gs w sl t):Reaches P gs w sl t (QD P E W Y Z ⟨f',s.k,h'⟩):=by
 obtain⟨K,Shun,a,q,h1,o,p,i,h0,⟨ι,fr,b,rfl,j,R,r,S,_,_⟩,u,v⟩:=H;have l:=j.free n;refine Reaches.then (wL i (A.2.2 K ι w fr (b++Z) h1 S R l) w (jW.refl w) gs sl t q h0 u v) ?_
 rintro x w1 y t1 ⟨D,F,z,G,c,⟨ι',d,rfl,m,B,C,rfl⟩,e,g⟩
 exact .here ⟨K,Shun,_,z,h1,o,p,i,c,⟨ι',d,b,rfl,j.grow m,C,r.mono (m.ext l),B,rfl,λ_ _ h=>by cases h⟩,e,g⟩
theorem Ef(X:vo P E I)(a:uz E I=true){L:WgLink}(H:WgLib P L){out:List FuncId}{s:OS}(p:Path P E I L.done L.tWg out s s'):∀{b:Array Goroutine} {w:World} {sl:Option (Nat×Nat)} {t:Trace},QD P E W Y Z s b w sl t->Reaches P b w sl t (QD P E W Y Z s'):=by
 induction p with
 |run n m e=>intro b w sl t h;rw[← e];exact Vy X.F X.FF n m out h
 |spawn n m e=>intro b w sl t h;exact Pb X a H e h
 |gc ids e=>intro b w sl t h;rw[← e];exact .here (Ze ids h)
 |sem A f=>intro b w sl t h;exact Vt A f h
 |trans _ _ c d=>intro b w sl t h;exact Reaches.then (c h) λ_ _ _ _ h=>d h
structure Ends(W:World)(v:AV)(u:Value)(w:World):Prop where
 val:∃ι,RV ι v u
 size:W.heap.size<=w.heap.size
 old:∀b,b<W.heap.size->w.heap[b]? =W.heap[b]?
 os:w.os=W.os
 tape:w.tape=W.tape
 output:w.output=W.output
theorem PZ(F:Fits P E)(FF:dM P E)(m:Of K P E){w:World}{fr:Frame}(S:Sat K ι h w)(R:RF ι f fr)(e:iw E f h=some (.ret v h'))(d:f.ret=true)(g:f.ds=[]):
 ∃u es,stepG P true (G fr []) w=GStep.after es (doReturn P true fr [] none u w)∧RV ι v u∧∀e∈es,xE K w.heap.size e:=by
 obtain⟨x,tm,td,ds,ret⟩:=f;simp only at d g;subst d;subst g;have o:fr.mode= .returning:=by simpa using R.mode
 have p:fr.defers=[]:=R.ds;have e:Kz E x tm td [] h=some (.ret v h'):=e;unfold Kz at e;simp only at e;split at e
 .rename_i c n j ex q
  obtain⟨fn,k1,A,_,r,_⟩:=FF.code x.fn c n j ex q;have key:∀{l:List AV},GK E j tm h=some l->∃u es,stepG P true (G fr []) w=GStep.after es (doReturn P true fr [] none u w)∧RV ι (VB l) u∧∀e∈es,xE K w.heap.size e:=by
   intro l i;obtain⟨u,es,s,t,y⟩:=GJ F m S R.tm r i;refine⟨u,seen P fr.fn es.toArray,?_,t,λe z=>y e (by simpa using Conc.mem_seen z)⟩;rw[zM R];unfold unwind;rw[p];have:=s #[];simp only[fG]at this;have k:P.funcs[fr.fn]? =some fn:=by rw[R.fn];exact k1
   simp only[o,k,this]
  cases i:GK E j tm h with
  |none=>rw[i]at e;cases e
  |some l=>
   rw[i]at e;have:=key i
   match l,e,this with
   |[],e,this=>cases e;exact this
   |[v],e,this=>cases e;exact this
   |a::b::l,e,this=>cases e;exact this
 .cases e
def now(P:Program)(w:World):Ctx:=⟨P,w,λb=>b<w.heap.size,w.heap.size,λb=>w.heap.size<=b,λ_ h=>h,True⟩
theorem Ch(P:Program)(a:Ext dI ι)(w:World):Sat (now P w) ι CX w:=
 ⟨(λi o e=>(by rw[show CX.tr.get i=none from Tr.dN i]at e;cases e)),(λi j o b p q e=>(by rw[show CX.tr.get i=none from Tr.dN i]at e;cases e)),ah _,λ_ h=>h,λ_ _=>rfl,rfl,rfl,rfl,λ_=>a⟩
def Known(E:Env)(W:World):Prop:=∀b o a,E.old b o=some a->b<W.heap.size∧∃v,W.cell? ⟨b,o,none⟩=some v∧RV dI a v
theorem the_run(X:vo P E I)(m:uz E I=true){L:WgLink}(H:WgLib P L){out:List FuncId}{g:List AV}(O:iW E fid g false=some f0)(p:Path P E I L.done L.tWg out ⟨f0,[],CX⟩ s')(hk:s'.k=[])(hr:iw E s'.f s'.h=some (.ret v h2))(t:s'.f.ret=true)(Q:s'.f.ds=[])(hd:s'.f.x.deferred=false)(T:s'.h.df=0)
 (U:P.inits.idxOf? s'.f.x.fn=none)(W:World)(hW:Known E W)(args:Array Value)(r:dJ dI g args.toList):
 ∃M last o w' y,runNT P (M+1) (solo (G (Frame.enter P fid args .normal) []) W) #[]=(.ended o w',y)∧runN P M (solo (G (Frame.enter P fid args .normal) []) W)= .next last∧step P last= .ended o w'∧Conc.Good P (Ends W v) last o w' y:=by
 have h0:QD P E W W.heap.size [] ⟨f0,[],CX⟩ #[G (Frame.enter P fid args .normal) []] W none #[]:=
  ⟨now P W,λ_=>False,_,λ_=>0,⟨rfl,λb o a e=>⟨trivial,hW b o a e⟩,λ_=>trivial⟩,rfl,rfl,λ_ _ h=>h.elim,rfl,⟨dI,_,[],rfl,λi _ hi=>(by unfold dI;rw[au (by omega)]),kL X.FF O r rfl,rfl,Ch P (λ_ _ h=>h) W,rfl,λ_ _ h=>by cases h⟩,leavers_one P _,lI.of (past_nil.mono (bT _))⟩
 obtain⟨N,gs1,w1,V,t1,l,K,Shun,a,q,hKP,j,w,hA,h01,⟨ι,fr,frs,rfl,hB,R,z,S,_,_⟩,hL,hP⟩:=Ef X m H p h0;rw[hk]at z;have z:frs=[]:=z;subst z;rw[T]at hP;have s:fr.kind= .normal:=by rw[R.kind,hd];rfl
 obtain⟨N2,last,o,w',y,e1,e2,e3,e4⟩:=beside_ends (P:=P) (Shun:=Shun) (B:=w1.heap.size) (D:=λ_ _ _=>False) (Post:=Ends W v) (sl:=V) (n:=0) (λ_ _ _ h=>h.elim) h01 hL hP.to (λw₂ hw=>by
  obtain⟨d,rfl⟩:=hw;have c:Sat K ι s'.h (w1.at d):=S.rely (jW.drawn w1 d);obtain⟨u,es,g1,g2,A⟩:=PZ X.F X.FF hKP c R hr t Q;have hE:Ends W v u (w1.at d):=⟨⟨ι,g2⟩,by have:=c.bs;rw[w]at this;exact oO λhlt=>lS _ (this _ hlt),λb C=>(c.old b (by rw[w];exact C)).trans (by rw[j]),by rw[c.os,j],by rw[c.tape,j],by rw[c.output,j]⟩;refine⟨rfl,u,es,?_,λe J=>⟨λx hx hs=>?_,(A e J).still.1,(A e J).still.2,CS (.inl (A e J))⟩,hE⟩
  .rw[bD,g1]
   unfold doReturn;simp only[s,R.fn,U];simp[GStep.after]
  .obtain⟨b,C,hb1,_⟩:=xq (.inl (A e J)) hx
   exact aP hb1 λh=>h.elim (hA _ b hs C).1 (hA _ b hs C).2)
 rw[solo_eq_crowd];refine⟨N+N2,last,o,w',y,?_,?_,e3,e4⟩
 .rw[pO,runNT_add,l];exact e1
 .rw[runN_add,← runNT_fst P _ _ #[],l];exact e2
end
end
section
variable{α:Type}{a v:AV}{b id n off:Nat}{e1 e2:List Event}{el:TypeId}{g:FuncId}{l:List AV}{p:Nat×Nat}{s:Sem α}{u:Value}{vs:Array Value}{z:Bool}
section
variable{P:Program}{E:Env}{K:Ctx}{Z:Nm}{h Y:AH}{w:World}
theorem aj.det{a b:α}{w1 w2:World}(h1:aj P s w a w1 e1)(c:aj P s w b w2 e2):w1=w2:=by
 have:=(h1 #[]).symm.trans (c #[]);simp only[pK,Result.ok.injEq]at this;exact this.1.2
theorem Grow.none{ι':Nm}(g:Grow Z ι' n n):ι'=Z:=funext λi=>g.same i (by omega)
theorem Sat.cellOf(S:Sat K Z h w){vs:List AV}{g:Bool}(r:h.obj id= .cells vs el g z)(hp:Z id=some p){k:IntKind}{n:Int}(s:vs[off]? =some (.int k n)):
 w.cell? ⟨p.1,off,none⟩=some (.int k n)∧¬K.fz p.1∧K.own p.1∧p.1<w.heap.size∧(z=false->w.frozen? ⟨p.1,off,none⟩=false):=by
 obtain⟨q,ob,m,j,b,l,o,c,lo,hi,rfl,⟨l1,l2,t,u⟩,h1,A,i⟩:=S.at r trivial;obtain rfl:p=q:=by rw[hp]at m;exact aI m
 obtain⟨v,d,e⟩:=u.get s;unfold RV at e;subst e;have f:off<l1.length:=(aJ.1 d).1;have a:c[off]? =some (.int k n):=by rw[← bq,t,aU f];exact d
 refine⟨by rw[cell_of o];exact a,j,b,l,λx=>?_⟩;rw[JH o];have y:=(aS.1 a).1;have:=(i x).1 off y;by_cases i:lo<=off
 .simp only[i,decide_true,Bool.true_and,gQ];omega
 .simp[i]
theorem Sat.U5(S:Sat K Z h w){k:IntKind}{m:Int}(e:dD h id off [.int k m]=some Y)(hp:Z id=some p)(g:w.cell? ⟨p.1,off,none⟩=some u)(j:w.frozen? ⟨p.1,off,none⟩=false):
 Sat K Z Y (w.setCell ⟨p.1,off,none⟩ (.int k m))∧w.heap.size<=(w.setCell ⟨p.1,off,none⟩ (.int k m)).heap.size∧(∀b,b<w.heap.size->¬(¬K.fz b∧K.own b)->(w.setCell ⟨p.1,off,none⟩ (.int k m)).heap[b]? =w.heap[b]?)∧Y.nx=h.nx∧Y.df=h.df:=by
 have a:Y.nx=h.nx∧Y.df=h.df:=by
  unfold dD at e;split at e
  .obtain⟨_,rfl⟩:=dV e
   exact⟨AH.qF,AH.uI⟩
  .cases e
 obtain⟨ι',w',es,h1,c,l,f,n⟩:=um (P:=K.P) S hp e (vs:=[.int k m]) (bQ (by unfold RV;rfl) bS) (by rw[a.1];intro i h1 c;omega);rw[a.1]at c;obtain rfl:=c.none;have d:aj K.P (storeCells ⟨p.1,off,none⟩ [.int k m] 0) w () (w.setCell ⟨p.1,off,none⟩ (.int k m)) ([⟨.cell ⟨p.1,off,none⟩,true,false⟩]++[]):=by
  unfold storeCells;rw[ng];exact aj.bind (aj.store (P:=K.P) g j (by simp) (by simp)) (aj.pure _)
 obtain rfl:=aj.det h1 d;exact⟨l,f.size,f.kept,a⟩
theorem wE{e:Array Value->Sem Value}(a:qR P g e){w':World}{es:List Event}(hr:aj P (e vs) w u w' es)(b:∀x∈es,x.sync=true∧∀g,x.loc≠.mark (.extern g))(c:Y.nx=h.nx)(d:Sat K Z Y w')(f:RV Z v u)
 (i:iA K w w' es.toArray)(j:deafBehind h.df es.toArray=Y.df):EOk P K Z h w (callFunc g vs) v Y:=λ_=>
 ⟨Z,w',.value u,_,nL a hr,by rw[c];exact Grow.refl _ _,d,f,λfn=>by rw[uo fn b];exact⟨i,j⟩⟩
theorem LK(h:dJ Z (a::l) vs.toList):∃v r,vs.toList=v::r∧vs[0]? =some v∧RV Z a v∧dJ Z l r:=by
 obtain⟨v,r,h1,b,c⟩:=aX h;exact⟨v,r,h1,by rw[← bq,h1];rfl,b,c⟩
theorem Sat.df(S:Sat K Z h w)(d:Nat):Sat K Z { h with df:=d } w:=⟨S.objs,S.inj,S.lo,S.bs,S.old,S.os,S.tape,S.output,S.jU⟩
theorem uN{w':World}{es:List Event}(a:w.heap.size<=w'.heap.size)(c:∀b,b<w.heap.size->¬(¬K.fz b∧K.own b)->w'.heap[b]? =w.heap[b]?)(d:∀e∈es,EvG K w'.heap.size e)(f:w'.os=w.os)(g:w'.tape=w.tape)(i:w'.output=w.output):iA K w w' es.toArray:=
 ⟨a,c,λe h=>d e (by simpa using h),f,g,i⟩
theorem CQ{wr:Bool}(h1:¬K.fz b)(a:K.own b)(c:b<n):EvG K n ⟨.cell ⟨b,off,none⟩,wr,true⟩:= .inl ⟨.inl ⟨h1,a⟩,c⟩
theorem aey{e:Array Value->Sem Value}(c:qR P g e)(S:Sat K Z h w)(d:fI P K Z h w (e vs) v Y):EOk P K Z h w (callFunc g vs) v Y:=
 X3.ext S λf=>by
  obtain⟨ι',w',i,es,h1,j,k,l,a,m⟩:=d f;refine⟨ι',w',.value i,_,nL c h1,j,k,l,⟨a.size,a.kept,λe b=>?_⟩,m⟩;rcases ay.1 b with rfl|b
  .unfold xE NS;trivial
  .exact a.evs e b
theorem acf(FX:S9 P E):∀g n B x,E.ft.get g=some ⟨none,n,B,x⟩->∀(K:Ctx) Z h w args (vs:Array Value) v Y,Of K P E->Sat K Z h w->dJ Z args vs.toList->Lm x args h=some (.val v Y)->EOk P K Z h w (callFunc g vs) v Y:=by
 intro g n B x G K Z h w args vs v Y hP S O e;unfold Lm at e;split at e
 .
  cases e;obtain⟨ef,c,C⟩:=FX.uJ g n B G;obtain⟨u,rfl,z⟩:=args1 O;exact wE c (es:=[]) (by rw[C];exact aj.pure _) (by simp) rfl S z (iA.refl w) rfl
 .cases e
  obtain⟨ef,c,C⟩:=FX.xU g n B G;exact wE c (es:=[]) (by rw[C];exact aj.pure _) (by simp) rfl S (by unfold RV;rfl) (iA.refl w) rfl
 .
  rename_i id off;obtain⟨m,c,I⟩:=FX.race g n B G;split at e
  .rename_i Q el cg cz H
   cases e;obtain⟨u,rfl,z⟩:=args1 O;obtain⟨p,hp,rfl⟩:=iV z;obtain⟨q,ob,U,hb1,V,hlt,_⟩:=S.at H trivial;obtain rfl:p=q:=by rw[hp]at U;exact aI U
   have C:EvG K w.heap.size (qV (m ⟨p.1,off,none⟩)):=by
    rcases I with rfl|rfl|rfl|rfl|rfl<;>exact .inl ⟨hb1,V,hlt⟩
   have hnd:(qV (m ⟨p.1,off,none⟩)).loc≠.mark .disable∧(qV (m ⟨p.1,off,none⟩)).loc≠.mark .enable:=by
    rcases I with rfl|rfl|rfl|rfl|rfl<;>simp[qV]
   refine wE c (Bn m ⟨p.1,off,none⟩ rfl) (λx c=>?_) rfl S (by unfold RV;exact⟨#[],rfl,bS⟩) (uN (ah _) (λ_ _ _=>rfl) (λe i=>?_) rfl rfl rfl) (om (λe i=>?_) _)
   .simp at c;subst c
    refine⟨rfl,λf=>?_⟩;rcases I with rfl|rfl|rfl|rfl|rfl<;>simp[qV]
   .simp at i;subst i;exact C
   .simp at i;subst i;exact hnd
  .cases e
 .
  cases e;have c:=FX.Un g n B G;refine wE c (wP .disable vs) (λx c=>?_) rfl (S.df _) (by unfold RV;exact⟨#[],rfl,bS⟩) (uN (ah _) (λ_ _ _=>rfl) (λe i=>?_) rfl rfl rfl) rfl
  .simp at c;subst c;exact⟨rfl,by simp[qV]⟩
  .simp at i;subst i;exact .inr (.inl rfl)
 .
  cases W:Nat.beq h.df 0 with
  |true=>rw[W]at e;cases e
  |false=>
   rw[W]at e;cases e;have c:=FX.en g n B G;refine wE c (wP .enable vs) (λx c=>?_) rfl (S.df _) (by unfold RV;exact⟨#[],rfl,bS⟩) (uN (ah _) (λ_ _ _=>rfl) (λe i=>?_) rfl rfl rfl) rfl
   .simp at c;subst c;exact⟨rfl,by simp[qV]⟩
   .simp at i;subst i;exact .inr (.inr rfl)
 .
  rename_i k id off k' d;have c:=FX.Fg g n B k G;split at e
  .rename_i Q el cg cz H
   split at e
   .rename_i D m I
    cases l:(xg k k'&&xg k D)with
    |false=>rw[l]at e;cases e
    |true=>
     rw[l]at e;rw[av]at l;obtain rfl:=mF l.1;obtain rfl:=mF l.2;simp only[bA,aN]at e;obtain⟨h1,A,e⟩:=e;cases e;obtain⟨u,r,j,_,z,hr⟩:=LK O;obtain⟨p,hp,rfl⟩:=iV z;obtain⟨u2,r2,s,y,F⟩:=aX hr;rw[bJ F]at s;unfold RV at y;subst y;have j:vs=#[.pointer (some ⟨p.1,off,none⟩),.int k d]:=by apply bU.1;rw[j,s]
     subst j;have W:cz=false:=by
      unfold dD at A;rw[H]at A;cases cz with
      |false=>rfl
      |true=>cases A
     obtain⟨M,R,T,c4,c5⟩:=S.cellOf H hp I;obtain⟨J,s2,s3,s4,s5⟩:=S.U5 A hp M (c5 W);refine wE c (Yw M (c5 W)) (λx c=>?_) s4 J (by unfold RV;rfl) (uN s2 s3 (λe i=>?_) (J.os.trans S.os.symm) (J.tape.trans S.tape.symm) (J.output.trans S.output.symm)) ?_
     .simp at c;rcases c with rfl|rfl<;>exact⟨rfl,by simp[tO,Bg]⟩
     .simp at i;rcases i with rfl|rfl<;>exact CQ R T (by omega)
     .rw[s5];exact om (λe i=>by simp at i;rcases i with rfl|rfl<;>simp[tO,Bg]) _
   .cases e
  .cases e
 .
  rename_i k id off;have c:=FX.BL g n B k G;split at e
  .rename_i Q el cg cz H
   split at e
   .rename_i D m I
    cases l:xg k D with
    |false=>rw[l]at e;cases e
    |true=>
     rw[l]at e;obtain rfl:=mF l;cases e;obtain⟨u,rfl,z⟩:=args1 O;obtain⟨p,hp,rfl⟩:=iV z;obtain⟨M,R,T,c4,c5⟩:=S.cellOf H hp I;refine wE c (zS M) (λx c=>?_) rfl S (by unfold RV;rfl) (uN (ah _) (λ_ _ _=>rfl) (λe i=>?_) rfl rfl rfl) (om (λe i=>?_) _)
     .simp at c;subst c;exact⟨rfl,by simp[tO]⟩
     .simp at i;subst i;exact CQ R T c4
     .simp at i;subst i;simp[tO]
   .cases e
  .cases e
 .
  rename_i k id off k' o k1 b;have c:=FX.Fb g n B k G;split at e
  .rename_i Q el cg H
   split at e
   .rename_i D m I
    cases l:(xg k k'&&xg k D&&xg k k1)with
    |false=>rw[l]at e;cases e
    |true=>
     rw[l]at e;rw[av,av]at l;obtain rfl:=mF l.1.1;obtain rfl:=mF l.1.2;obtain rfl:=mF l.2;obtain⟨u,r,j,_,z,hr⟩:=LK O;obtain⟨p,hp,rfl⟩:=iV z;obtain⟨u2,r2,s,y,F⟩:=aX hr;obtain⟨u3,r3,N,X,hr3⟩:=aX F;rw[bJ hr3]at N;unfold RV at y X;subst y;subst X;have j:vs=#[.pointer (some ⟨p.1,off,none⟩),.int k o,.int k b]:=by apply bU.1;rw[j,s,N]
     subst j;obtain⟨M,R,T,c4,c5⟩:=S.cellOf H hp I;simp only[bA]at e;cases L:(m==o)with
     |true=>
      rw[L]at e;simp only[bA,aN]at e;obtain⟨h1,A,e⟩:=e;cases e;obtain rfl:=eq_of_beq L;obtain⟨J,s2,s3,s4,s5⟩:=S.U5 A hp M (c5 rfl);refine wE c (EO M (c5 rfl)) (λx c=>?_) s4 J (by unfold RV;rfl) (uN s2 s3 (λe i=>?_) (J.os.trans S.os.symm) (J.tape.trans S.tape.symm) (J.output.trans S.output.symm)) ?_
      .simp at c;rcases c with rfl|rfl<;>exact⟨rfl,by simp[tO,Bg]⟩
      .simp at i;rcases i with rfl|rfl<;>exact CQ R T (by omega)
      .rw[s5];exact om (λe i=>by simp at i;rcases i with rfl|rfl<;>simp[tO,Bg]) _
     |false=>
      rw[L]at e;cases e;have hne:m≠o:=by simpa using L
      refine wE c (Ci M (c5 rfl) hne) (λx c=>?_) rfl S (by unfold RV;rfl) (uN (ah _) (λ_ _ _=>rfl) (λe i=>?_) rfl rfl rfl) (om (λe i=>?_) _)
      .simp at c;subst c;exact⟨rfl,by simp[tO]⟩
      .simp at i;subst i;exact CQ R T c4
      .simp at i;subst i;simp[tO]
   .cases e
  .cases e
 .
  rename_i a b;cases e;have c:=FX.BH g n B G;obtain⟨u,r,j,_,z,hr⟩:=LK O;obtain⟨u2,r2,s,y,F⟩:=aX hr;rw[bJ F]at s;obtain rfl:=mq z;obtain rfl:=mq y;have j:vs=#[.string ⟨a.toArray⟩,.string ⟨b.toArray⟩]:=by apply bU.1;rw[j,s]
  subst j;refine wE c (es:=[]) ?_ (by simp) rfl S (by unfold int64 RV;rfl) (iA.refl w) rfl;show aj P (do Pure.pure (goInt (Extern.BytealgCompare.cmp (← Extern.Bytes.bytesOf (.string ⟨a.toArray⟩)) (← Extern.Bytes.bytesOf (.string ⟨b.toArray⟩))))) w _ w [];exact aj.aG (aj.pure _) (aj.aG (aj.pure _) (aj.pure _))
 .
  rename_i t id;have c:=FX.wY g n B G;split at e
  .rename_i es ck H
   cases e;obtain⟨u,rfl,z⟩:=args1 O;unfold RV at z;obtain⟨x,rfl,hx1⟩:=z;obtain⟨p,hp,rfl⟩:=qH hx1;obtain⟨q,ob,U,b1,b2,b3,hb,es',rfl,hr⟩:=S.at H trivial;obtain rfl:p=q:=by rw[hp]at U;exact aI U
   obtain⟨g1,g2⟩:=aj.mR (P:=P) (K:=K) hb (by simp) rfl b1 b2;have hl:fI P K Z h w (Extern.MapsClone.clone #[.iface t (.map (some p.1))]) (.iface t (.map h.nx)) (h.new (.map es ck)):=by
    refine fI.kE g1 g2 ?_;refine uY S (cap:=0) (o:= .map es ck) (ob:= .map es' ck) ⟨es',rfl,hr⟩ (λb=> .iface t (.map (some b))) (λb w=>aj.pure _) (λι' b hb _=>?_);unfold RV;refine⟨_,rfl,?_⟩;unfold RV;exact⟨_,hb,rfl⟩
   exact aey c S hl
  .cases e
 .cases e
 .cases e
end
end
section
variable{ag:Bool}{l:List AV}{t:TypeId}{ι:Nm}
def IL(a:Bool)(x:Array Value):Value:=if a then .agg x else x.getD 0 undef
structure qQ(P:Program)(D:Nat)(t:TypeId)(ks:List Nat)(ag:Bool):Prop where
 agg:∀w,aj P (isAgg t) w ag w []
 size:∀w,aj P (sizeOf t) w ks.length w []
 sc:ag=false->ks.length=1
 pos:0<ks.length
 ck:∀(n:Nat) (b:Bool) (w:World) (x:Array Value) (l:List AV) (ι:Nm),D<=n->dJ ι l x.toList->sJ ks l=true->aj P (Instr.checkKey b n t (IL ag x)) w () w []
 eq:∀(n:Nat) (w:World) (x y:Array Value) (l m:List AV) (ι:Nm) (r:Bool),D<=n->dJ ι l x.toList->dJ ι m y.toList->sJ ks l=true->AP l m=some r->aj P (Op.equalIn n t (IL ag x) (IL ag y)) w r w []
theorem qQ.mono{P:Program}{D D':Nat}{ks:List Nat}(h:qQ P D t ks ag)(c:D<=D'):qQ P D' t ks ag:=
 ⟨h.agg,h.size,h.sc,h.pos,λn b w x l ι a=>h.ck n b w x l ι (by omega),λn w x y l m ι r a=>h.eq n w x y l m ι r (by omega)⟩
theorem Er:∀{ks:List Nat} {l:List AV},sJ ks l=true->l.length=ks.length
 |[],[],_=>rfl
 |[],_::_,h=>by cases h
 |_::_,[],h=>by cases h
 |k::ks,a::l,h=>by
  unfold sJ at h;rw[av]at h;simp[Er h.2]
theorem Es:∀{ks ks':List Nat} {l:List AV},sJ (ks++ks') l=true->∃l1 l2,l=l1++l2∧sJ ks l1=true∧sJ ks' l2=true
 |[],ks',l,h=>⟨[],l,rfl,rfl,h⟩
 |k::ks,ks',[],h=>by cases h
 |k::ks,ks',a::l,h=>by
  have h:(_&&sJ (ks++ks') l)=true:=h;rw[av]at h;obtain⟨l1,l2,rfl,h1,b⟩:=Es h.2;exact⟨a::l1,l2,rfl,by unfold sJ;rw[av];exact⟨h.1,h1⟩,b⟩
theorem Gh:∀{l1 l2 m:List AV} {r:Bool},AP (l1++l2) m=some r->∃c d r1 r2,m=c++d∧l1.length=c.length∧AP l1 c=some r1∧AP l2 d=some r2∧r=(r1&&r2)
 |[],l2,m,r,h=>⟨[],m,true,r,rfl,rfl,rfl,h,by simp⟩
 |a::l1,l2,[],r,h=>by cases h
 |a::l1,l2,b::m,r,h=>by
  have h:(match OV a b with |none=>none|some false=>(match AP (l1++l2) m with |none=>none|some _=>some false)|some true=>AP (l1++l2) m)=some r:=h;cases e:OV a b with
  |none=>rw[e]at h;cases h
  |some q=>
   rw[e]at h;cases q with
   |true=>
    obtain⟨c,d,r1,r2,rfl,f,h1,g,rfl⟩:=Gh (show AP (l1++l2) m=some r from h);exact⟨b::c,d,r1,r2,rfl,by simp[f],by unfold AP;rw[e];exact h1,g,rfl⟩
   |false=>
    simp only at h;cases i:AP (l1++l2) m with
    |none=>rw[i]at h;cases h
    |some q=>
     rw[i]at h;cases h;obtain⟨c,d,r1,r2,rfl,f,h1,g,_⟩:=Gh i;exact⟨b::c,d,false,r2,rfl,by simp[f],by unfold AP;rw[e];simp only[h1],g,rfl⟩
theorem Zx{m:List AV}{r:Bool}(h:AP l m=some r):l.length=m.length:=by
 obtain⟨c,a,r1,r2,rfl,h1,d,b,_⟩:=Gh (l1:=l) (l2:=[]) (by simpa using h);cases a with
 |nil=>simpa using h1
 |cons _ _=>cases b
theorem zJ{l1 l2:List AV}{vs:List Value}(h:dJ ι (l1++l2) vs):dJ ι l1 (vs.take l1.length)∧dJ ι l2 (vs.drop l1.length):=by
 induction l1 generalizing vs with
 |nil=>exact⟨by simpa using bS,by simpa using h⟩
 |cons a l1 b=>
  obtain⟨v,r,rfl,h1,c⟩:=aX (show dJ ι (a::(l1++l2)) vs from h);obtain⟨d,e⟩:=b c;exact⟨by simpa using bQ h1 d,by simpa using e⟩
section
variable{P:Program}{D:Nat}{w:World}
theorem KN{ks:List Nat}(h:qQ P D t ks ag){cs:Array Value}{off:Nat}(c:off+ks.length<=cs.size):aj P (part t cs off) w (IL ag (cs.extract off (off+ks.length))) w []:=by
 unfold part;refine aj.aG (h.agg w) ?_;cases ag with
 |true=>exact aj.aG (h.size w) (aj.pure _)
 |false=>
  have h1:=h.sc rfl;have a:off<cs.size:=by omega
  have b:cs[off]? =some cs[off]:=bX a;have:IL false (cs.extract off (off+ks.length))=cs[off]:=by
   unfold IL;rw[h1];simp only[gG,if_false,bf,Array.getElem?_extract];rw[aH (by omega),Nat.add_zero,b];rfl
  rw[this];simp only[b];exact aj.pure _
inductive OW{α:Type}(P:Program)(D:Nat)(ty:α->TypeId)(off:α->Nat):Nat->List α->List Nat->Prop
 |nil {o:Nat}:OW P D ty off o [] []
 |cons {o:Nat} {a:α} {as:List α} {ks ks':List Nat} {ag:Bool}:off a=o->qQ P D (ty a) ks ag->OW P D ty off (o+ks.length) as ks'->OW P D ty off o (a::as) (ks++ks')
theorem CP(x:Array Value)(o n:Nat):(x.extract o (o+n)).toList=(x.toList.drop o).take n:=by
 rw[Array.toList_extract];simp[List.extract_eq_take_drop]
theorem Ns{α:Type}{ty:α->TypeId}{off:α->Nat}{d:Nat}(E:D<=d){x y:Array Value}{B:α->Option Bool×Unit->Sem (ForInStep (Option Bool×Unit))}{ι:Nm}:∀{o:Nat} {as:List α} {ks:List Nat},OW P D ty off o as ks->(∀a∈as,∀s,B a s=(do
 let u ← part (ty a) x (off a);let v ← part (ty a) y (off a);let r ← Op.equalIn d (ty a) u v
 if(!r)=true then pure (ForInStep.done (some false,()))else pure (ForInStep.yield (none,()))))->
 ∀{l m:List AV} {r:Bool},dJ ι l (x.toList.drop o)->dJ ι m (y.toList.drop o)->sJ ks l=true->AP l m=some r->aj P (forIn as ((none,()):Option Bool×Unit) B) w (if r then(none,())else(some false,())) w []:=by
 intro o as ks H;induction H with
 |nil=>
  intro _ l m r t z n j;have:l=[]:=by cases l with |nil=>rfl|cons _ _=>cases n
  subst this;cases m with
  |nil=>cases j;rw[List.forIn_nil];exact aj.pure _
  |cons _ _=>cases j
 |@cons o a as ks ks' N F k _ G=>
  intro A l m r t z n j;obtain⟨l1,l2,rfl,h,p⟩:=Es n;obtain⟨I,O,r1,r2,rfl,J,he1,he2,rfl⟩:=Gh j;obtain⟨c,f⟩:=zJ t;obtain⟨b,e⟩:=zJ z;have q:=Er h;have i:=c.length;have g:=b.length;rw[← J]at b e g;rw[q]at c f i b e g;simp only[fM,mJ,Array.length_toList]at i g;have C:=k.pos;rw[← CP]at c b;rw[List.drop_drop]at f e;rw[List.forIn_cons,A a (by simp)];subst F;have K:=k.eq d w _ _ l1 I ι r1 E c b h he1;have L:aj P (do
   let u ← part (ty a) x (off a);let v ← part (ty a) y (off a);let r ← Op.equalIn d (ty a) u v
   if(!r)=true then pure (ForInStep.done (some false,()))else pure (ForInStep.yield (none,()))) w (if r1 then ForInStep.yield (none,())else ForInStep.done (some false,())) w []:=by
   refine aj.aG (KN k (by omega)) (aj.aG (KN k (by omega)) (aj.aG K ?_));cases r1
   .exact aj.pure _
   .exact aj.pure _
  refine aj.aG L ?_;cases r1 with
  |false=>exact aj.pure _
  |true=>
   simp only[Bool.true_and];exact G (λa M=>A a (by simp[M])) f e p he2
theorem Nt{α:Type}{ty:α->TypeId}{off:α->Nat}{d:Nat}(t:D<=d){b:Bool}{x:Array Value}{B:α->PUnit->Sem (ForInStep PUnit)}{ι:Nm}:∀{o:Nat} {as:List α} {ks:List Nat},OW P D ty off o as ks->(∀a∈as,∀s,∀n k,aj P (part (ty a) x (off a)) w n w []->aj P (Instr.checkKey b d (ty a) n) w () w []->∀z,aj P (sizeOf (ty a)) w z w []->k=z->aj P (B a s) w (.yield ⟨⟩) w [])->
 ∀{l:List AV},dJ ι l (x.toList.drop o)->sJ ks l=true->aj P (forIn as PUnit.unit B) w PUnit.unit w []:=by
 intro o as ks H;induction H with
 |nil=>
  intro _ l m p;rw[List.forIn_nil];exact aj.pure _
 |@cons o a as ks ks' k u h _ v=>
  intro q l m p;obtain⟨l1,l2,rfl,f,i⟩:=Es p;obtain⟨c,e⟩:=zJ m;have j:=Er f;have g:=c.length;rw[j]at c e g;simp only[fM,mJ,Array.length_toList]at g;have r:=h.pos;rw[← CP]at c;rw[List.drop_drop]at e;rw[List.forIn_cons];subst u;refine aj.aG (q a (by simp) _ _ ks.length (KN h (by omega)) (h.ck d b w _ l1 ι t c f) _ (h.size w) rfl) ?_;exact v (λa y=>q a (by simp[y])) e i
end
end
section
variable{a:AV}{ag:Bool}{e t:TypeId}{l:List AV}{ι:Nm}
section
variable{P:Program}{D:Nat}{w:World}
theorem Gn{d:TypeDesc}(h:P.underlying t=some d)(a:ag=match d with | .struct _| .array _ _=>true|_=>false):aj P (isAgg t) w ag w []:=by
 unfold isAgg;refine aj.aG (aj.underlying h) ?_;subst a;cases d<;>exact aj.pure _
theorem CJ{k:Nat}{x:Array Value}(c:dJ ι l x.toList)(b:sJ [k] l=true):∃a v,l=[a]∧x=#[v]∧RV ι a v∧(match a with | .bool _=>Nat.beq k 0| .int _ _=>Nat.beq k 1| .str _=>Nat.beq k 2|_=>false)=true:=by
 cases l with
 |nil=>cases b
 |cons a l=>
  unfold sJ at b;rw[av]at b;cases l with
  |cons _ _=>have:=b.2;cases this
  |nil=>
   obtain⟨v,rfl,d⟩:=args1 c;exact⟨a,v,rfl,rfl,d,b.1⟩
theorem Sg{m:List AV}{r:Bool}(h:AP [a] m=some r):∃b,m=[b]∧OV a b=some r:=by
 have c:=Zx h;cases m with
 |nil=>simp at c
 |cons b m=>
  cases m with
  |cons _ _=>simp at c
  |nil=>
   refine⟨b,rfl,?_⟩;unfold AP at h;cases d:OV a b with
   |none=>rw[d]at h;cases h
   |some q=>rw[d]at h;cases q<;>exact h
theorem WB{k:IntKind}{i:TypeInfo}(h:P.underlying t=some (.int k))(hi:P.info? t=some i)(s:i.size=1):qQ P 1 t [1] false:=by
 refine⟨λw=>Gn h rfl,λw=>by have:=aj.sizeOf (w:=w) hi;rw[s]at this;exact this,λ_=>rfl,by decide,λn b w x l ι z f g=>?_,λn w x y l m ι r z f A g o=>?_⟩
 .obtain⟨a,v,rfl,rfl,e,c⟩:=CJ f g
  obtain⟨n,rfl⟩:∃j,n=j+1:=⟨n - 1,by omega⟩;unfold Instr.checkKey;refine aj.aG (aj.underlying h) ?_;cases a<;>first|(cases c;done)|skip
  unfold RV at e;subst e;exact aj.pure _
 .obtain⟨a,v,rfl,rfl,e,c⟩:=CJ f g
  obtain⟨b,rfl,he1⟩:=Sg o;clear o;obtain⟨u,rfl,p⟩:=args1 A;obtain⟨n,rfl⟩:∃j,n=j+1:=⟨n - 1,by omega⟩;unfold Op.equalIn;refine aj.aG (aj.underlying h) ?_;cases a<;>first|(cases c;done)|skip
  rename_i k1 a;cases b<;>first|(cases he1;done)|skip
  rename_i q b;unfold RV at e p;subst e;subst p;have he1:cond (xg k1 q) (some (a==b)) none=some r:=he1;cases d:xg k1 q with
  |false=>rw[d]at he1;cases he1
  |true=>
   rw[d]at he1;cases he1;obtain rfl:=mF d;show aj P (if k1=k1 then pure (a==b)else _) w _ w _;rw[aH rfl];exact aj.pure _
theorem WA{i:TypeInfo}(h:P.underlying t=some .string)(hi:P.info? t=some i)(o:i.size=1):qQ P 1 t [2] false:=by
 refine⟨λw=>Gn h rfl,λw=>by have:=aj.sizeOf (w:=w) hi;rw[o]at this;exact this,λ_=>rfl,by decide,λn b w x l ι p e f=>?_,λn w x y l m ι r p e q f j=>?_⟩
 .obtain⟨a,v,rfl,rfl,d,c⟩:=CJ e f
  obtain⟨n,rfl⟩:∃g,n=g+1:=⟨n - 1,by omega⟩;unfold Instr.checkKey;refine aj.aG (aj.underlying h) ?_;cases a<;>first|(cases c;done)|skip
  unfold RV at d;subst d;exact aj.pure _
 .obtain⟨a,v,rfl,rfl,d,c⟩:=CJ e f
  obtain⟨b,rfl,he1⟩:=Sg j;clear j;obtain⟨u,rfl,k⟩:=args1 q;obtain⟨n,rfl⟩:∃g,n=g+1:=⟨n - 1,by omega⟩;unfold Op.equalIn;refine aj.aG (aj.underlying h) ?_;cases a<;>first|(cases c;done)|skip
  rename_i a;cases b<;>first|(cases he1;done)|skip
  rename_i b;unfold RV at d k;subst d;subst k;unfold OV at he1;cases he1;show aj P (pure ((⟨a.toArray⟩:ByteArray)==⟨b.toArray⟩)) w _ w _;rw[bytes_beq];exact aj.pure _
theorem y8 {t : TypeId} {fs : Array Field} {i : TypeInfo} {ks : List Nat} (h : P.underlying t = some (.struct fs)) (hi : P.info? t = some i) (hs : i.size = ks.length) (hst : P.stoodInHeld t = false) (hn : ∀ f ∈ fs.toList, f.name ≠ "_")
 (hI : OW P D (fun f : Field => f.type) (fun f : Field => f.offset) 0 fs.toList ks) (hpos : 0 < ks.length) : qQ P (D + 1) t ks true := by
 refine ⟨fun w => Gn h rfl, fun w => by have := aj.sizeOf (w := w) hi; rw [hs] at this; exact this, fun h => (by cases h), hpos, fun n b w x l ι hd hx hk => ?_, fun n w x y l m ι r hd hx hy hk he => ?_⟩
 · obtain ⟨n, rfl⟩ : ∃ n', n = n' + 1 := ⟨n - 1, by omega⟩
   unfold Instr.checkKey
   refine aj.aG (aj.underlying h) ?_
   simp only [IL, if_true]
   rw [← Array.forIn_toList]
   refine aj.aG (Nt (d := n) (b := b) (x := x) (by omega) hI (fun f hf s v ag hp hc _ _ _ => ?_) (by simpa using hx) hk) (aj.pure _)
   simp only [hn f hf, ne_eq, not_false_eq_true, if_true]
   exact aj.aG hp (aj.aG hc (aj.pure _))
 · obtain ⟨n, rfl⟩ : ∃ n', n = n' + 1 := ⟨n - 1, by omega⟩
   unfold Op.equalIn
   refine aj.aG (aj.underlying h) ?_
   simp only [IL, if_true]
   refine aj.aG aj.program ?_
   simp only [hst, Bool.false_eq_true, if_false]
   rw [← Array.forIn_toList]
   refine aj.aG (Ns (d := n) (x := x) (y := y) (by omega) hI (fun f hf s => ?_) (by simpa using hx) (by simpa using hy) hk he) ?_
   · simp only [hn f hf, ne_eq, not_false_eq_true, if_true]
   · cases r <;> exact aj.pure _
theorem JD{e:TypeId}{ks:List Nat}{b:Bool}(a:qQ P D e ks b):∀(n s:Nat),OW P D (λ_:Nat=>e) (λi=>i*ks.length) (s*ks.length) (List.range' s n 1) (List.replicate n ks).flatten
 |0,s=>OW.nil
 |n+1,s=>by
  rw[oP,List.replicate_succ,List.flatten_cons];refine OW.cons rfl a ?_;have:=JD a n (s+1);rw[kF,Nat.one_mul]at this;exact this
theorem PS{len:Nat}{i:TypeInfo}{ks:List Nat}(h:P.underlying t=some (.array len e))(hi:P.info? t=some i)(c:qQ P D e ks ag)(p:i.size=(List.replicate len ks).flatten.length)(a:0<(List.replicate len ks).flatten.length):qQ P (D+1) t (List.replicate len ks).flatten true:=by
 have g:=JD c len 0;rw[jJ]at g;refine⟨λw=>Gn h rfl,λw=>by have:=aj.sizeOf (w:=w) hi;rw[p]at this;exact this,λh=>(by cases h),a,λn b w x l ι q j k=>?_,λn w x y l m ι r q j u k A=>?_⟩
 .obtain⟨n,rfl⟩:∃o,n=o+1:=⟨n - 1,by omega⟩
  unfold Instr.checkKey;refine aj.aG (aj.underlying h) ?_;simp only[IL,if_true];rw[Std.Legacy.Range.forIn_eq_forIn_range'];have e1:(Std.Legacy.Range.size { start:=0,stop:=len,step:=1,step_pos:=Nat.one_pos })=len:=by simp[Std.Legacy.Range.size]
  rw[e1];refine aj.aG (Nt (d:=n) (b:=b) (x:=x) (by omega) g (λf B s v z hp C F G E=>?_) (by simpa using j) k) (aj.pure _);refine aj.aG (c.size w) ?_;exact aj.aG hp (aj.aG C (aj.pure _))
 .obtain⟨n,rfl⟩:∃o,n=o+1:=⟨n - 1,by omega⟩
  unfold Op.equalIn;refine aj.aG (aj.underlying h) ?_;simp only[IL,if_true];refine aj.aG (c.size w) ?_;rw[Std.Legacy.Range.forIn_eq_forIn_range'];have e1:(Std.Legacy.Range.size { start:=0,stop:=len,step:=1,step_pos:=Nat.one_pos })=len:=by simp[Std.Legacy.Range.size]
  rw[e1];refine aj.aG (Ns (d:=n) (x:=x) (y:=y) (by omega) g (λf B s=>rfl) (by simpa using j) (by simpa using u) k A) ?_;cases r<;>exact aj.pure _
theorem qQ.says{ks:List Nat}{a:TypeDesc}(h:qQ P D t ks true)(d:D<=10000)(i:P.underlying t=some a)(j:P.eqGuardType P.depth t=false):∃a,P.underlying t=some a∧∀(x:Array Value) (l:List AV) (ι:Nm) (w:World),dJ ι l x.toList->sJ ks l=true->
 (∀b,aj P (Instr.checkKey b 10000 t (.agg x)) w () w [])∧
 ∀(y:Array Value) (m:List AV) (r:Bool),dJ ι m y.toList->AP l m=some r->
 ∀(e o2:Operand),∀op,(op=BinOp.eql∨op=BinOp.neq)->aj P (eqGuard op t e o2 (.agg x) (.agg y)) w () w []∧aj P (Op.equal t (.agg x) (.agg y)) w r w []:=by
 refine⟨a,i,λx l ι w f g=>⟨λb=>h.ck 10000 b w x l ι d f g,λy m r k n e o2 op c=>⟨?_,h.eq 10000 w x y l m ι r d f k g n⟩⟩⟩;unfold eqGuard;have hp:aj P (do
  let p ← program;let q ← program
  if(!p.eqGuardType q.depth t)=true then pure ()else(do
   let b ← Op.eqGuardIn Op.maxDepth t (.agg x) (.agg y)
   if b = true then unsupported (.noEntry "binop/eql: two nil values of an interface type with methods, in a part of a struct or an array") else pure ())) w () w [] := by
  refine aj.aG aj.program (aj.aG aj.program ?_);simp only[j,Bool.not_false,if_true];exact aj.pure _
 rcases c with rfl|rfl
 .exact hp
 .exact hp
end
end
section
variable{P:Program}{ti:TI}
def WO(P:Program):TD->TypeDesc->Bool
 | .bool,.bool=>true
 | .int k,.int c=>xg k c
 | .str,.string=>true
 | .ptr e,.pointer a=>Nat.beq e a
 | .slice e,.slice a=>Nat.beq e a
 | .map k e,.map c a=>Nat.beq k c&&Nat.beq e a&&(P.underlying k).isSome
 | .func,.func _ _ _=>true
 | .iface b,.interface g=>b==g.isEmpty
 | .struct d,.struct f=>Nat.beq d.length f.size&&(d.zip f.toList).all λp=>Nat.beq p.1.1 p.2.offset&&Nat.beq p.1.2.2 p.2.type&&(match P.info? p.2.type with |some h=>Nat.beq h.size p.1.2.1|none=>false)
 | .array n e,.array i a=>Nat.beq n i&&Nat.beq e a
 | .Km,.unsafePointer=>true
 | .tuple,.tuple _=>true
 |_,_=>false
def PN:Value->Bool
 | .agg _=>true
 |_=>false
def QW(P:Program)(t:Nat)(ti:TI):Bool:=
 match P.info? t,P.underlying t with
 |some i,some d=>(match i.zero with
  |some z=>Nat.beq i.size ti.size&&Nat.beq i.bytes ti.bytes&&Nat.beq z.cells.size ti.size&&Nat.beq ti.zero.length ti.size&&(PN z==ti.isAgg)&&AV.zn ti.zero (z.cells.toList.map sM)&&WO P ti.d d
  |none=>false)
 |_,_=>false
def allT{α:Type}(p:Nat->α->Bool):Tr α->Nat->Nat->Bool
 | .e,_,_=>true
 | .n l v r,a,b=>(match v with |some x=>p a x|none=>true)&&(allT p l (a+b) (2*b)&&allT p r (a+2*b) (2*b))
def tH{α:Type}(p:Nat->α->Prop):Tr α->Nat->Nat->Prop
 | .e,_,_=>True
 | .n l v r,a,b=>(∀x,v=some x->p a x)∧tH p l (a+b) (2*b)∧tH p r (a+2*b) (2*b)
theorem tH.get{α:Type}{p:Nat->α->Prop}:∀{t:Tr α} {a b i:Nat} {x:α},tH p t a b->t.get i=some x->p (a+b*i) x
 | .e,a,b,i,x,_,h=>by rw[Tr.dN]at h;cases h
 | .n l v r,a,b,i,x,H,h=>by
   obtain⟨h1,d,f⟩:=H;rw[Tr.jh]at h;by_cases h0:i=0
   .subst h0
    simp at h;have:=h1 x h;simpa using this
   .by_cases c:i % 2=1
    .simp[h0,c]at h
     have:=tH.get d h;have e:a+b+2*b*(i / 2)=a+b*i:=by
      have:i=2*(i / 2)+1:=by omega
      conv=>rhs;rw[this]
      rw[Nat.mul_add,bW,← Nat.mul_assoc,mW b 2];omega
     rw[e]at this;exact this
    .simp[h0,c]at h
     have:=tH.get f h;have e:a+2*b+2*b*(i / 2 - 1)=a+b*i:=by
      have:i=2*(i / 2 - 1)+2:=by omega
      conv=>rhs;rw[this]
      rw[Nat.mul_add,← Nat.mul_assoc,mW b 2];omega
     rw[e]at this;exact this
theorem Im{α:Type}{p:Nat->α->Bool}:∀{t:Tr α} {a b:Nat},allT p t a b=true->tH (λi x=>p i x=true) t a b
 | .e,_,_,_=>trivial
 | .n l v r,a,b,h=>by
   unfold allT at h;rw[av,av]at h;obtain⟨h1,c,d⟩:=h;refine⟨λx f=>?_,Im c,Im d⟩;subst f;exact h1
theorem yg{ι:Nm}:∀l:List Value,dJ ι (l.map sM) l
 |[]=>bS
 |v::l=>bQ (Ao v) (yg l)
theorem WM{a:TD}{d:TypeDesc}(h:WO P a d=true):match(generalizing:=false) a,d with
 | .bool,.bool=>True
 | .int k,.int f=>k=f
 | .str,.string=>True
 | .ptr e,.pointer c=>e=c
 | .slice e,.slice c=>e=c
 | .map k e,.map f c=>k=f∧e=c∧∃p,P.underlying k=some p
 | .func,.func _ _ _=>True
 | .iface b,.interface q=>b=q.isEmpty
 | .struct l,.struct m=>l.length=m.size∧∀(i:Nat) (x:Nat×Nat×TypeId) (g:Field),l[i]? =some x->m[i]? =some g->x.1=g.offset∧x.2.2=g.type∧∃o,P.info? g.type=some o∧o.size=x.2.1
 | .array n e,.array r c=>n=r∧e=c
 | .Km,.unsafePointer=>True
 | .tuple,.tuple _=>True
 |_,_=>False:=by
 cases a<;>cases d<;>simp only[WO,gG]at h ⊢
 .exact mF h
 .exact ak h
 .exact ak h
 .rw[av,av]at h
  exact⟨ak h.1.1,ak h.1.2,Option.isSome_iff_exists.1 h.2⟩
 .exact eq_of_beq h
 .rw[av,d9]at h
  refine⟨ak h.1,λi x g s t=>?_⟩;have u:(x,g)∈List.zip _ _:=bE (i:=i) (by rw[List.getElem?_zip_eq_some];exact⟨s,by rw[bq];exact t⟩);have:=h.2 _ u;simp only[av]at this;refine⟨ak this.1.1,ak this.1.2,?_⟩;have j:=this.2;split at j
  .exact⟨_,‹_›,ak j⟩
  .cases j
 .rw[av]at h
  exact⟨ak h.1,ak h.2⟩
theorem Vj{t:Nat}(h:QW P t ti=true):QB P t ti:=by
 unfold QW at h;split at h
 .rename_i i d hi e
  split at h
  .rename_i z f
   simp only[av]at h;obtain⟨⟨⟨⟨⟨⟨h1,g⟩,j⟩,k⟩,c⟩,a⟩,l⟩:=h;have a:=AV.rW a;have c:PN z=ti.isAgg:=eq_of_beq c;refine⟨⟨i,z,hi,ak h1,ak g,f,λι=>?_,λι=>by rw[a];exact yg _,ak j,ak k⟩,d,e,WM l⟩;unfold TI.zeroV;rw[← c];cases b:PN z with
   |true=>
    obtain⟨cs,rfl⟩:∃cs,z= .agg cs:=by cases z<;>first|exact⟨_,rfl⟩|cases b
    exact LP (by rw[a];exact yg _)
   |false=>
    have m:z.cells=#[z]:=by cases z<;>first|rfl|cases b
    rw[a,m];exact Ao z
  .cases h
 .cases h
end
section
variable{n:Nat}{rs:List ResultVar}
def LV(fn:Func):EX->Prop
 | .uJ=>∃e,Extern.find fn=some e∧∀v,e #[v]=Pure.pure v
 | .xU=>∃e,Extern.find fn=some e∧∀vs,e vs=Pure.pure (.bool false)
 | .race=>∃m:Addr->Mark,Extern.find fn=some (Extern.Race.marked m)∧(m= .acquire∨m= .release∨m= .releaseMerge∨m= .read∨m= .write)
 | .Un=>Extern.find fn=some (λ_=>do mark .disable;Pure.pure Extern.Race.none_)
 | .en=>Extern.find fn=some (λ_=>do mark .enable;Pure.pure Extern.Race.none_)
 | .Fg k=>Extern.find fn=some (Extern.Atomic.update (Op.intArith .add) k true)
 | .Fb k=>Extern.find fn=some (Extern.Atomic.casT (.int k))
 | .BL k=>Extern.find fn=some (Extern.Atomic.loadT (.int k))
 | .BH=>Extern.find fn=some Extern.BytealgCompare.compare
 | .wY=>Extern.find fn=some Extern.MapsClone.clone
 | .stop=>False
def QH(P:Program)(g:Nat)(a:FI):Prop:=
 ∃ fn, P.funcs[g]? = some fn ∧ fn.ntmps = a.ntmps ∧ fn.results.toList = a.results ∧ fn.body = a.body ∧ (fn.name == "runtime.NumGoroutine") = false ∧
  (a.body.isSome=true∨a.ext= .stop∨(Extern.findNext fn=none∧LV fn a.ext))
section
variable{P:Program}{E:Env}
theorem aaw(H:tH (QH P) E.ft 0 1){g:Nat}{a:FI}(h:E.ft.get g=some a):QH P g a:=by
 have:=tH.get H h;simpa using this
theorem wD (H : tH (QH P) E.ft 0 1) {g : Nat} {x : EX} (h : E.ft.get g = some ⟨none, n, rs, x⟩) (b : x ≠ .stop) : ∃ fn, P.funcs[g]? = some fn ∧ (fn.name == "runtime.NumGoroutine") = false ∧ fn.body.isNone = true ∧ Extern.findNext fn = none ∧ LV fn x := by
 obtain⟨fn,h1,i,j,c,d,e⟩:=aaw H h;rcases e with a|a|⟨a,f⟩
 .cases a
 .exact aP a b
 .exact⟨fn,h1,d,by rw[c];rfl,a,f⟩
theorem Ho(H:tH (QH P) E.ft 0 1):S9 P E where
 uJ g n rs h:=by
  obtain⟨fn,h1,a,b,c,e,d,f⟩:=wD H h (by simp);exact⟨e,⟨fn,h1,a,b,c,d⟩,f⟩
 xU g n rs h:=by
  obtain⟨fn,h1,a,b,c,e,d,f⟩:=wD H h (by simp);exact⟨e,⟨fn,h1,a,b,c,d⟩,f⟩
 race g n rs h:=by
  obtain⟨fn,h1,a,b,c,m,d,f⟩:=wD H h (by simp);exact⟨m,⟨fn,h1,a,b,c,d⟩,f⟩
 Un g n rs h:=by
  obtain⟨fn,h1,a,b,c,d⟩:=wD H h (by simp);exact⟨fn,h1,a,b,c,d⟩
 en g n rs h:=by
  obtain⟨fn,h1,a,b,c,d⟩:=wD H h (by simp);exact⟨fn,h1,a,b,c,d⟩
 Fg g n rs k h:=by
  obtain⟨fn,h1,a,b,c,d⟩:=wD H h (by simp);exact⟨fn,h1,a,b,c,d⟩
 Fb g n rs k h:=by
  obtain⟨fn,h1,a,b,c,d⟩:=wD H h (by simp);exact⟨fn,h1,a,b,c,d⟩
 BL g n rs k h:=by
  obtain⟨fn,h1,a,b,c,d⟩:=wD H h (by simp);exact⟨fn,h1,a,b,c,d⟩
 BH g n rs h:=by
  obtain⟨fn,h1,a,b,c,d⟩:=wD H h (by simp);exact⟨fn,h1,a,b,c,d⟩
 wY g n rs h:=by
  obtain⟨fn,h1,a,b,c,d⟩:=wD H h (by simp);exact⟨fn,h1,a,b,c,d⟩
theorem NM(H:tH (QH P) E.ft 0 1)(a:P.follows .mixedOrders=true):dM P E where
 code g c n rs x h:=by
  obtain⟨fn,h1,b,d,e,f,_⟩:=aaw H h;exact⟨fn,h1,e,b,d,f⟩
 ext:=acf (Ho H)
 mixed:=a
 acR:=rfl
theorem Vf(H:allT (QW P) E.tt 0 1=true):∀t ti,E.tt.get t=some ti->QB P t ti:=λt ti h=>by
 have:=tH.get (Im H) h;simp only[gF,Nat.one_mul]at this;exact Vj this
theorem M6{t:TypeId}{i:TypeInfo}{m:Method}{g:FuncId}{c:String}{e:TypeId}(hi:P.info? t=some i)(f:P.underlying t=some (.pointer e))(h:i.methods.find? (λm=>m.name==c)=some m)(hp:m.path.toList=[])(j:m.func=some (g,true)){b:Nat}(d:b≠0)
 (v:Value)(w:World):aj P (method b t v c) w (g,v) w []:=by
 cases b with
 |zero=>exact aP rfl d
 |succ b=>
  unfold method;refine aj.aG (aj.typeInfo hi) ?_;simp only[h,hp,j];refine aj.aG (a:=(t,Place.val v)) (by unfold follow;exact aj.pure _) ?_;refine aj.aG (a:=v) ?_ (aj.pure _);unfold receiverAt;exact aj.aG (aj.underlying f) (aj.pure _)
end
end
section
variable{P:Program}{xs:List (Nat×EX)}
def Az{α:Type}:List α->Bool->List α
 |[],_=>[]
 |x::l,true=>x::Az l false
 |_::l,false=>Az l true
def mkT{α:Type}:Nat->List (Option α)->Tr α
 |0,_=> .e
 |n+1,l=>match l with
  |[]=> .e
  |x::r=> .n (mkT n (Az r true)) x (mkT n (Az r false))
theorem Kt{α:Type}:∀(l:List α) (i:Nat),(Az l true)[i]? =l[2*i]? ∧(Az l false)[i]? =l[2*i+1]?
 |[],i=>⟨by simp[Az],by simp[Az]⟩
 |x::l,i=>by
  have h:=Kt l;refine⟨?_,?_⟩
  .cases i with
   |zero=>rfl
   |succ i=>show(Az l false)[i]? =(x::l)[2*i+1+1]?;rw[(h i).2,fO]
  .show(Az l true)[i]? =_;rw[(h i).1,fO]
theorem KW{α:Type}{p:Nat->α->Prop}:∀(n:Nat) (l:List (Option α)) (a b:Nat),(∀i x,l[i]? =some (some x)->p (a+b*i) x)->tH p (mkT n l) a b
 |0,_,_,_,_=>trivial
 |n+1,[],_,_,_=>trivial
 |n+1,x::r,a,b,h=>by
  refine⟨λy e=>?_,KW n _ _ _ λi y e=>?_,KW n _ _ _ λi y e=>?_⟩
  .have:=h 0 y (by rw[e];rfl)
   simpa using this
  .rw[(Kt r i).1]at e
   have:=h (2*i+1) y (by rw[fO];exact e);rw[show a+b*(2*i+1)=a+b+2*b*i by rw[Nat.mul_add,bW,← Nat.mul_assoc,mW b 2];omega]at this;exact this
  .rw[(Kt r i).2]at e
   have:=h (2*i+1+1) y (by rw[fO];exact e);rw[show a+b*(2*i+1+1)=a+2*b+2*b*i by rw[Nat.mul_add,Nat.mul_add,bW,← Nat.mul_assoc,mW b 2];omega]at this;exact this
def PX:List (Nat×EX)->Nat->EX
 |[],_=> .stop
 |p::l,i=>cond (Nat.beq p.1 i) p.2 (PX l i)
theorem Sc:∀(a:List (Nat×EX)) (i:Nat),PX a i= .stop∨(i,PX a i)∈a
 |[],_=> .inl rfl
 |p::l,i=>by
  show cond (Nat.beq p.1 i) p.2 (PX l i)=_∨(i,cond (Nat.beq p.1 i) p.2 (PX l i))∈_;cases h:Nat.beq p.1 i with
  |true=>have:=ak h;subst this;exact .inr (bK ..)
  |false=>exact(Sc l i).imp id (bg _)
def fiL(a:List (Nat×EX)):List Func->Nat->List (Option FI)
 |[],_=>[]
 |f::l,i=>some ⟨f.body,f.ntmps,f.results.toList,PX a i⟩::fiL a l (i+1)
theorem WG{b:List (Nat×EX)}:∀{l:List Func} {k i:Nat} {a:FI},(fiL b l k)[i]? =some (some a)->∃f,l[i]? =some f∧a=⟨f.body,f.ntmps,f.results.toList,PX b (k+i)⟩
 |[],k,i,a,h=>by simp[fiL]at h
 |f::l,k,0,a,h=>by cases h;exact⟨f,rfl,rfl⟩
 |f::l,k,i+1,a,h=>by
  obtain⟨g,h1,c⟩:=WG (l:=l) (k:=k+1) (i:=i) h;exact⟨g,h1,by rw[c,Nat.add_right_comm];rfl⟩
theorem adH (n : Nat) (b : (P.funcs.toList.all λ f => !(f.name == "runtime.NumGoroutine")) = true)
 (c:∀p∈xs,∃fn,P.funcs[p.1]? =some fn∧Extern.findNext fn=none∧LV fn p.2):tH (QH P) (mkT n (fiL xs P.funcs.toList 0)) 0 1:=by
 refine KW n _ 0 1 λi j h=>?_;obtain⟨f,h1,rfl⟩:=WG h;rw[gF,gF,Nat.one_mul];have a:P.funcs[i]? =some f:=by rw[← bq];exact h1
 refine⟨f,a,rfl,rfl,rfl,?_,?_⟩
 .have:=(d9.1 b) f (bE h1)
  simpa using this
 .rcases Sc xs i with h|h
  .exact .inr (.inl h)
  .obtain⟨fn,d,e,g⟩:=c _ h
   cases a.symm.trans d;exact .inr (.inr ⟨e,g⟩)
def afI(P:Program)(t:TypeId):Option TD:=
 match P.underlying t with
 |some .bool=>some .bool
 |some (.int k)=>some (.int k)
 |some .string=>some .str
 |some (.pointer e)=>some (.ptr e)
 |some (.slice e)=>some (.slice e)
 |some (.map k e)=>some (.map k e)
 |some (.func ..)=>some .func
 |some (.interface a)=>some (.iface a.isEmpty)
 |some (.struct b)=>some (.struct (b.toList.map λf=>(f.offset,(match P.info? f.type with |some i=>i.size|none=>0),f.type)))
 |some (.array n e)=>some (.array n e)
 |some .unsafePointer=>some .Km
 |some (.tuple _)=>some .tuple
 |_=>none
def afH(P:Program)(t:TypeId):Option TI:=
 match P.info? t,afI P t with
 |some i,some d=>(match i.zero with
  |some z=>some ⟨d,i.size,i.bytes,z.cells.toList.map sM⟩
  |none=>none)
 |_,_=>none
def tiL(P:Program):Nat->Nat->List (Option TI)
 |0,_=>[]
 |n+1,t=>afH P t::tiL P n (t+1)
end
section
open Go.Conc (G)
variable{K:Ctx}{ds:List AD}{td:List AI}{w:World}{ι:Nm}
mutual
theorem AV.iO:∀a:AV,a.ren (λi=>i)=a
 | .any| .one| .nQ| .aM| .emp| .nT| .sD| .kH| .bool _| .int _ _| .str _| .ptr _ _| .sl _ _ _ _| .map _| .yield _| .aO _ _ _=>by simp[AV.ren]
 | .fn _ a b=>by simp[AV.ren,AV.pQ a,AV.pQ b]
 | .iface _ v=>by simp[AV.ren,AV.iO v]
 | .agg l=>by simp[AV.ren,AV.pQ l]
 | .bV l=>by simp[AV.ren,AV.pQ l]
theorem AV.pQ:∀l:List AV,AV.jC (λi=>i) l=l
 |[]=>by simp[AV.jC]
 |a::l=>by simp[AV.jC,AV.iO a,AV.pQ l]
end
theorem Gb{α:Type}{f:α->α}(b:∀a,f a=a):∀t:Tr α,wX f t=t
 | .e=>rfl
 | .n l v r=>by
   unfold wX;rw[Gb b l,Gb b r];cases v<;>simp[b]
theorem AO.iO(o:AO):o.ren (λi=>i)=o:=by
 cases o with
 |cells vs e g z=>simp[AO.ren,AV.pQ]
 |map es c=>
  simp only[AO.ren,AO.map.injEq,j6];induction es with
  |nil=>rfl
  |cons e es a=>simp[AV.iO,a]
 |GR m s l p=>cases m<;>rfl
 |loop st p fn nt tm ps x y d=>simp[AO.ren,Gb AV.iO]
 |_=>rfl
def yR:List AI->Bool
 |[]=>true
 | .code _::l| .inBlock _::l| .inLoop _::l| .inScope _::l| .inRegion _ _::l=>yR l
 |_::_=>false
theorem rF{ι ι':Nm}:∀{l:List AI} {is:List Item},yR l=true->Fx ι l is->Fx ι' l is
 |[],_,_,h=>h
 |a::l,is,hp,⟨i,r,h1,h2,b⟩=>by
  cases a<;>first|(cases hp;done)|exact⟨i,r,h1,h2,rF hp b⟩
structure AF.low(n:Nat)(f:AF):Prop where
 tm:yO n f.tm=true
 todo:yR f.todo=true
 ds:f.ds=[]
 round:f.x.round=none
theorem RF.TU{n:Nat}{ι ι':Nm}(H:∀i p,(i<n∨OLD<=i)->ι i=some p->ι' i=some p){f:AF}{fr:Frame}(b:f.low n)(R:RF ι f fr):RF ι' f fr:=by
 have d:zK n (λi=>i) ι ι':=λi p hi hp=>H i p hi hp;refine⟨R.fn,⟨R.tm.1,λt a c=>RV.iX d (uj b.tm c) (by rw[AV.iO];exact R.tm.2 t a c)⟩,rF b.todo R.todo,?_,R.mode,R.kind,?_⟩
 .have:=R.ds
  rw[b.ds]at this ⊢;exact this
 .have:=R.round
  rw[b.round]at this ⊢;exact this
structure Moves(ρ:Nat->Nat)(n:Nat)(h2 h':AH):Prop where
 le:n<=h'.nx
 le2:h'.nx<=h2.nx
 top:h2.nx<=OLD
 df:h'.df=h2.df
 same:∀i,(i<n∨OLD<=i)->ρ i=i
 new:∀i,n<=i->i<h'.nx->n<=ρ i∧ρ i<h2.nx
 inj:∀i j,i<h'.nx->j<h'.nx->ρ i=ρ j->i=j
 obj:∀i o,h'.tr.get i=some o->o.live->i<h'.nx∧h2.tr.get (ρ i)=some (o.ren ρ)
 TU:fH h'.nx h'.tr=true
def tZ(n:Nat)(ι:Nm):Nm:=λi=>if i<n∨OLD<=i then ι i else none
theorem Sat.cap{h:AH}(S:Sat K ι h w)(a:∀i o,h.tr.get i=some o->o.live->i<h.nx)(k:fH h.nx h.tr=true):Sat K (tZ h.nx ι) h w:=by
 have m:zK h.nx (λi=>i) ι (tZ h.nx ι):=λi p hi hp=>by unfold tZ;rw[aH hi];exact hp
 refine⟨λi o e l=>?_,λi j o g p q e1 e2 l1 l2 hp b c=>?_,S.lo,S.bs,S.old,S.os,S.tape,S.output,λn i p hi=>?_⟩
 .obtain⟨p,ob,h1,h2,r,s,t⟩:=S.objs i o e l
  have:o.ren (λi=>i)=o:=AO.iO o;exact⟨p,ob,by unfold tZ;rw[aH (.inl (a i o e l))];exact h1,h2,r,s,RO.iX m (nX k e) (by rw[this];exact t)⟩
 .unfold tZ at hp b
  rw[aH (.inl (a i o e1 l1))]at hp;rw[aH (.inl (a j g e2 l2))]at b;exact S.inj i j o g p q e1 e2 l1 l2 hp b c
 .have d:OLD<=i:=by
   unfold dI at hi;rcases aZ i OLD with h1|h1
   .rw[au (by omega)]at hi;cases hi
   .exact h1
  unfold tZ;rw[aH (.inr d)];exact S.jU n i p hi
def AF.ren(ρ:Nat->Nat)(f:AF):AF:=⟨f.x,wX (AV.ren ρ) f.tm,f.todo,f.ds,f.ret⟩
section
variable{P:Program}{E:Env}{f X Y:AF}{h Z h':AH}{ρ:Nat->Nat}
theorem Rq{i:Nat}{p:Nat×Nat}(hi:dI i=some p):OLD<=i:=by
 unfold dI at hi;rcases aZ i OLD with h1|h1
 .rw[au (by omega)]at hi;cases hi
 .exact h1
theorem Sat.moved{d:Nm}{n:Nat}(M:Moves ρ n Z h')(S:Sat K d Z w)(k:∀i,(i<n∨OLD<=i)->d i=ι i):
 ∃ι':Nm,(∀i,(i<n∨h'.nx<=i)->ι' i=ι i)∧zK h'.nx ρ d ι'∧Sat K ι' h' w:=by
 let ι':Nm:=λi=>if n<=i∧i<h'.nx then d (ρ i)else ι i;have h1:∀i,¬(n<=i∧i<h'.nx)->ι' i=ι i:=λi hi=>au hi;have r:∀i,n<=i->i<h'.nx->ι' i=d (ρ i):=λi a b=>aH ⟨a,b⟩;have c:∀i,i<h'.nx∨OLD<=i->ι' i=d (ρ i):=λi hi=>by
  by_cases s:n<=i∧i<h'.nx
  .exact r i s.1 s.2
  .have g:i<n∨OLD<=i:=by omega
   rw[h1 i s,M.same i g,k i g]
 have v:zK h'.nx ρ d ι':=λi p hi hp=>by rw[c i hi];exact hp
 refine⟨ι',λi hi=>h1 i (by omega),v,⟨λi o e l=>?_,λi j o z p q e1 e2 l1 l2 hp x t=>?_,S.lo,S.bs,S.old,S.os,S.tape,S.output,λA i p hi=>?_⟩⟩
 .obtain⟨m,u⟩:=M.obj i o e l
  obtain⟨p,ob,k1,B,C,D,F⟩:=S.objs (ρ i) _ u (AO.dS.2 l);exact⟨p,ob,by rw[c i (.inl m)];exact k1,B,C,D,RO.iX v (nX M.TU e) F⟩
 .obtain⟨m,u⟩:=M.obj i o e1 l1
  obtain⟨y,G⟩:=M.obj j z e2 l2;rw[c i (.inl m)]at hp;rw[c j (.inl y)]at x;exact M.inj i j m y (S.inj _ _ _ _ p q u G (AO.dS.2 l1) (AO.dS.2 l2) hp x t)
 .have g:=Rq hi
  rw[c i (.inr g),M.same i (.inr g)];exact S.jU A i p hi
theorem DoesS.move(A:DoesS P E f h X Z)(M:Moves ρ h.nx Z h')(r:f.low h.nx)(s:fH h.nx h.tr=true)(u:∀i o,h.tr.get i=some o->o.live->i<h.nx)(e:X=Y.ren ρ)(c:Y.low h'.nx):DoesS P E f h Y h':=by
 subst e;refine⟨M.le,A.2.1,λK ι w fr cs v S R y=>?_⟩;have z:=S.cap u s;have B:RF (tZ h.nx ι) f fr:=RF.TU (n:=h.nx) (λi p hi hp=>by unfold tZ;rw[aH hi];exact hp) r R;have C:Free (tZ h.nx ι) h.nx Z.nx:=λi a b=>by unfold tZ;rw[au (by have:=M.top;omega)]
 refine(A.2.2 K _ w fr cs v z B C).mono ?_
 rintro d g w' ⟨l,m,rfl,D,F,j,rfl⟩
 have k:∀i,(i<h.nx∨OLD<=i)->l i=ι i:=λi hi=>by
  rw[D.same i (by have:=M.top;omega)];unfold tZ;rw[aH hi]
 obtain⟨ι',k1,G,H⟩:=F.moved M k;refine⟨ι',m,rfl,⟨M.le,k1⟩,H,?_,M.df.symm⟩;refine⟨j.fn,⟨j.tm.1,λt a q=>RV.iX G (uj c.tm q) (j.tm.2 t (a.ren ρ) (by show(wX (AV.ren ρ) Y.tm).get t=_;rw[pq,q];rfl))⟩,rF c.todo j.todo,?_,j.mode,j.kind,?_⟩
 .have:=j.ds
  rw[show(Y.ren ρ).ds=Y.ds from rfl,c.ds]at this;rw[c.ds];exact this
 .have:=j.round
  rw[show(Y.ren ρ).x=Y.x from rfl,c.round]at this;rw[c.round];exact this
theorem DoesC.move{g:FuncId}{args:List AV}{l:AV}(A:DoesC P E g args h (l.ren ρ) Z)(M:Moves ρ h.nx Z h')(q:AV.dX h.nx args=true)(r:fH h.nx h.tr=true)(s:∀i o,h.tr.get i=some o->o.live->i<h.nx)(t:l.low h'.nx=true):DoesC P E g args h l h':=by
 refine⟨M.le,λK ι w vs c k v S e x y=>?_⟩;have z:=S.cap s r;have m:zK h.nx (λi=>i) ι (tZ h.nx ι):=λi p hi hp=>by unfold tZ;rw[aH hi];exact hp
 have B:dJ (tZ h.nx ι) args vs.toList:=dJ.iX m q (by rw[AV.pQ];exact e);have C:Free (tZ h.nx ι) h.nx Z.nx:=λi a b=>by unfold tZ;rw[au (by have:=M.top;omega)]
 refine(A.2 K _ w vs c k v z B x C).mono ?_
 rintro d g w' ⟨n,u,rfl,D,F,G,rfl⟩
 have j:∀i,(i<h.nx∨OLD<=i)->n i=ι i:=λi hi=>by
  rw[D.same i (by have:=M.top;omega)];unfold tZ;rw[aH hi]
 obtain⟨ι',k1,H,I⟩:=F.moved M j;exact⟨ι',u,rfl,⟨M.le,k1⟩,I,RV.iX H t G,M.df.symm⟩
theorem DoesS.forget{x:AX}{tm b:Tr AV}{r:Bool}(c:∀t a,b.get t=some a->tm.get t=some a):DoesS P E ⟨x,tm,td,ds,r⟩ h ⟨x,b,td,ds,r⟩ h:=
 ⟨ah _,rfl,λ_ ι _ fr _ _ S R _=> .stop λ_ hr=>⟨ι,fr,rfl,Grow.refl _ _,S.rely hr,⟨R.fn,⟨R.tm.1,λt a d=>R.tm.2 t a (c t a d)⟩,R.todo,R.ds,R.mode,R.kind,R.round⟩,rfl⟩⟩
end
end
section
variable{E:Env}{P:Program}{f f':AF}{h h':AH}{obs:List Prop}{v:AV}
def Yj:List Nat->Code->Code
 |[],c=>c
 |i::p,.seq a b=>if i==0 then Yj p a else Yj p b
 |i::p,.cond _ a b=>if i==0 then Yj p a else Yj p b
 |_::p,.block _ a=>Yj p a
 |_::p,.loop a=>Yj p a
 |_::p,.scope a=>Yj p a
 |i::p,.rangeFunc _ _ a b=>if i==0 then Yj p a else Yj p b
 |_,c=>c
def dY(f:Func)(p:List Nat):Code:=match f.body with |some c=>Yj p c|none=> .skip
abbrev zL{α:Type}(v:α):Tr α:= .n .e (some v) .e
abbrev zN{α:Type}(l:Tr α)(v:α)(r:Tr α):Tr α:= .n l (some v) r
abbrev zO{α:Type}(l r:Tr α):Tr α:= .n l none r
abbrev zI(n:Int):AV:= .int .i64 n
abbrev zP(a b:Nat):AV:= .ptr a b
abbrev zC(l:List AV)(t:TypeId):AO:= .cells l t false false
abbrev zG(l:List AV)(t:TypeId):AO:= .cells l t true false
noncomputable def ent(E:Env)(g:FuncId)(args:List AV):AF:=match iW E g args false with |some f=>f|none=>⟨⟨0,false,none,0⟩,.e,[],[],false⟩
theorem DoesC.ent{P:Program}{E:Env}(FF:dM P E){g:FuncId}{args:List AV}{h h':AH}{v:AV}(e:(iW E g args false).isSome=true)(H:Does P E (ent E g args) h v h'):DoesC P E g args h v h':=by
 cases a:iW E g args false with
 |none=>rw[a]at e;cases e
 |some f=>
  unfold Ev.ent at H;rw[a]at H;exact DoesC.enter FF a H
noncomputable def JA:List Nat->Tr AV->Tr AV
 |[],_=> .e
 |i::l,t=>match t.get i with
  |some a=>(JA l t).set i a
  |none=>JA l t
theorem Et:∀(l:List Nat) (t:Tr AV) (i:Nat) (a:AV),(JA l t).get i=some a->t.get i=some a
 |[],t,i,a,e=>by unfold JA at e;rw[Tr.dN]at e;cases e
 |j::l,t,i,a,e=>by
  unfold JA at e;split at e
  .rename_i b c
   rcases Tr.pU e with⟨rfl,rfl⟩|⟨_,h⟩
   .exact c
   .exact Et l t i a h
  .exact Et l t i a e
noncomputable def RJ(l:List Nat)(f:AF):AF:=match f with |⟨x,tm,td,ds,r⟩=>⟨x,JA l tm,td,ds,r⟩
theorem DoesS.keep{P:Program}{E:Env}{f f':AF}{h h':AH}(l:List Nat)(A:DoesS P E f h f' h'):DoesS P E f h (RJ l f') h':=by
 obtain⟨x,tm,td,ds,r⟩:=f';exact A.trans (DoesS.forget (Et l tm))
theorem KL(F:Fits P E)(FF:dM P E)(l:List Kk)(keep:List Nat)
 (e:(match sj P E l f h with |some (a,h1,o)=>some (RJ keep a,h1,o)|none=>none)=some (f',h',obs))(H:All obs):DoesS P E f h f' h':=by
 split at e
 .rename_i a h1 o hp
  cases e;exact DoesS.keep keep (path_ok F FF l f h hp H)
 .cases e
theorem MJ(F:Fits P E)(FF:dM P E)(l:List Kk)
 (e:(match sj P E l f h with |some (a,h1,o)=>(match iw E a h1 with |some (.ret v b)=>some (v,b,o)|_=>none)|none=>none)=some (v,h',obs))(H:All obs):Does P E f h v h':=by
 split at e
 .rename_i a h1 o hp
  split at e
  .rename_i c
   cases e;exact Does.of (path_ok F FF l f h hp H) (Does.ret F FF c)
  .cases e
 .cases e
end
section
open Go.Conc
open Go.Conc.Lib (WgLib WgLink)
variable{a v:AV}{argsA:List AV}{fid:FuncId}{gs1:Array Goroutine}{h h1 h2:AH}{out:List FuncId}{s':OS}{t:TypeId}{ti:TI}{ι:Nm}
def aco:Value->Option AV
 | .bool b=>some (.bool b)
 | .int k n=>some (.int k n)
 | .string s=>some (.str s.data.toList)
 | .pointer none=>some .nQ
 | .pointer (some ⟨b,o,none⟩)=>some (.ptr (OLD+b) o)
 | .slice none 0 0=>some (.aO none 0 0)
 | .slice (some ⟨b,o,s⟩) n c=>if n<=c∧(n≠0->s=none)then some (.aO (some (b,o)) n c)else none
 | .map none=>some .nT
 | .map (some b)=>some (.map (OLD+b))
 | .nilFunc=>some .sD
 | .nilIface=>some .kH
 |_=>none
theorem ZR{v:Value}(e:aco v=some a):RV dI a v:=by
 unfold aco at e;split at e
 all_goals first
  |(cases e;unfold RV;rfl)
  |(cases e;unfold RV;exact⟨_,wU _,rfl⟩)
  |(cases e;unfold RV;exact⟨none,rfl,ah _,λ_=>⟨rfl,rfl⟩,λ_=>rfl⟩)
  |skip
 .split at e
  .rename_i b
   cases e;unfold RV;exact⟨_,rfl,b.1,λc=>(by cases c),b.2⟩
  .cases e
 .cases e
def ES(w:World)(b o:Nat):Option AV:=match w.cell? ⟨b,o,none⟩with |some v=>aco v|none=>none
noncomputable def Env.at(E:Env)(w:World):Env:={ E with old:=ES w,peek:=true }
theorem Nq(E:Env)(w:World):Known (E.at w) w:=by
 intro b o a e;have e:ES w b o=some a:=e;unfold ES at e;split at e
 .rename_i v c
  refine⟨?_,v,c,ZR e⟩;unfold World.cell? at c;cases d:w.heap[b]? with
  |none=>simp[d]at c
  |some ob=>exact(aS.1 d).1
 .cases e
theorem Sq(b:Nat):Nat.ble OLD (OLD+b)=true:=aW (by omega)
theorem QY(b:Nat):OLD+b - OLD=b:=by omega
theorem rR{E:Env}{h:AH}{t:TypeId}{ti:TI}(c:E.tt.get t=some ti)(a:ti.isAgg=true){b off:Nat}{l:List AV}(d:iI E.old b off ti.size=some l):loadT E h t (OLD+b) off=some (.agg l):=by
 unfold loadT;rw[c];simp only[a,bA];unfold jw;rw[Sq,bA,QY,d];rfl
theorem I5{E:Env}(d:E.tt.get t=some ti)(c:ti.isAgg=false){b off:Nat}(e:E.old b off=some a):loadT E h t (OLD+b) off=some a:=by
 unfold loadT;rw[d];simp only[c,bC];rw[Sq,bA,QY,e]
def YD(a:Nat->Nat):AV->AV
 | .ptr i o=> .ptr (cond (Nat.ble OLD i) i (OLD+a i)) o
 |v=>v
def VE:AV->Bool
 | .ptr _ _=>true
 |a=>AV.low 0 a
def Gs:Tr AV->Bool
 | .e=>true
 | .n l v r=>Gs l&&(match v with |some a=>VE a|none=>true)&&Gs r
theorem DL:∀{t:Tr AV},Gs t=true->∀{i:Nat} {a:AV},t.get i=some a->VE a=true
 | .e,_,i,a,e=>by rw[Tr.dN]at e;cases e
 | .n l v r,h,i,a,e=>by
   unfold Gs at h;simp only[av]at h;rw[Tr.jh]at e;split at e
   .subst e;exact h.1.2
   .split at e
    .exact DL h.1.1 e
    .exact DL h.2 e
theorem yS(a:Ext dI ι):zK 0 (λi=>i) ι dI:=λi p hi hp=>by
 have hi:OLD<=i:=by omega
 have:=a i (i - OLD,0) (by unfold dI;rw[aH hi]);rw[hp]at this;rw[aI this];unfold dI;rw[aH hi]
theorem YC(b:Ext dI ι){e:Nat->Nat}(c:∀i p,ι i=some p->i<OLD->e i=p.1){v:Value}(hr:VE a=true)(h:RV ι a v):RV dI (YD e a) v:=by
 cases a with
 |ptr i o=>
  unfold RV at h;obtain⟨p,hp,rfl⟩:=h;unfold YD RV;cases d:Nat.ble OLD i with
  |true=>
   rw[bA];have hi:=aF d;have:=b i (i - OLD,0) (by unfold dI;rw[aH hi]);rw[hp]at this;exact⟨p,by rw[aI this];unfold dI;rw[aH hi],rfl⟩
  |false=>
   rw[bC];have hi:i<OLD:=by
    rcases aZ i OLD with h1|h1
    .exact h1
    .rw[aW h1]at d;cases d
   refine⟨_,wU _,?_⟩;rw[c i p hp hi]
 |_=>exact RV.iX (yS b) hr (by rw[AV.iO];exact h)
noncomputable def AF.reb(a:Nat->Nat)(f:AF):AF:=⟨f.x,wX (YD a) f.tm,f.todo,f.ds,f.ret⟩
theorem RF.reb{ι:Nm}(d:Ext dI ι){g:Nat->Nat}(h:∀i p,ι i=some p->i<OLD->g i=p.1){f:AF}{fr:Frame}(R:RF ι f fr)(l:Gs f.tm=true)(hp:yR f.todo=true)(c:f.ds=[])(j:f.x.round=none):RF dI (f.reb g) fr:=by
 refine⟨R.fn,⟨R.tm.1,λt a e=>?_⟩,rF hp R.todo,?_,R.mode,R.kind,?_⟩
 .have e:(wX (YD g) f.tm).get t=some a:=e
  rw[pq]at e;obtain⟨b,k,rfl⟩:=aN.1 e;exact YC d h (DL l k) (R.tm.2 t b k)
 .have:=R.ds
  rw[c]at this;show UM dI f.ds fr.defers;rw[c];exact this
 .have:=R.round
  rw[j]at this;show match f.x.round with |none=>fr.roundOf=none|some id=>∃p,dI id=some p∧fr.roundOf=some p.1
  rw[j];exact this
section
variable{P:Program}{I:nN}{W:World}{Z:Nat}
theorem finish{E:Env}(F:Fits P E)(FF:dM P E){w1:World}{g:Option (Nat×Nat)}{t1:Trace}(X:QD P E W Z [] s' gs1 w1 g t1)(Y:s'.k=[])(hr:iw E s'.f s'.h=some (.ret v h2))(m:s'.f.ret=true)(z:s'.f.ds=[])(hd:s'.f.x.deferred=false)(A:s'.h.df=0)
 (C:P.inits.idxOf? s'.f.x.fn=none){Post:Value->World->Prop}(j:∀u w,(∃ι,RV ι v u)->Z<=w.heap.size->(∀b,b<Z->w.heap[b]? =W.heap[b]?)->w.os=W.os->w.tape=W.tape->w.output=W.output->Post u w):
 ∃N last o w' O,runNT P (N+1) (crowd gs1 w1 g) t1=(.ended o w',O)∧runN P N (crowd gs1 w1 g)= .next last∧step P last= .ended o w'∧Conc.Good P Post last o w' O:=by
 obtain⟨K,Shun,a,q,G,i,p,Q,H,⟨ι,fr,J,rfl,hB,R,r,S,_,_⟩,hL,T⟩:=X;rw[Y]at r;have r:J=[]:=r;subst r;rw[A]at T;have l:fr.kind= .normal:=by rw[R.kind,hd];rfl
 exact beside_ends (P:=P) (Shun:=Shun) (B:=w1.heap.size) (D:=λ_ _ _=>False) (Post:=Post) (sl:=g) (n:=0) (λ_ _ _ h=>h.elim) H hL T.to (λU hw=>by
  obtain⟨d,rfl⟩:=hw;have c:Sat K ι s'.h (w1.at d):=S.rely (jW.drawn w1 d);obtain⟨u,es,g1,g2,s⟩:=PZ F FF G c R hr m z;have hE:Post u (w1.at d):=j _ _ ⟨ι,g2⟩ (by have:=c.bs;rw[p]at this;exact oO λL=>lS _ (this _ L)) (λb t=>(c.old b (by rw[p];exact t)).trans (by rw[i])) (by rw[c.os,i]) (by rw[c.tape,i]) (by rw[c.output,i]);refine⟨rfl,u,es,?_,λe y=>⟨λx hx V=>?_,(s e y).still.1,(s e y).still.2,CS (.inl (s e y))⟩,hE⟩
  .rw[bD,g1]
   unfold doReturn;simp only[l,R.fn,C];simp[GStep.after]
  .obtain⟨b,t,M,_⟩:=xq (.inl (s e y)) hx
   exact aP M λh=>h.elim (Q _ b V t).1 (Q _ b V t).2)
structure Laid(h1:AH)(W w1:World)(bl:Nat->Nat):Prop where
 size:W.heap.size<=w1.heap.size
 old:∀b,b<W.heap.size->w1.heap[b]? =W.heap[b]?
 os:w1.os=W.os
 tape:w1.tape=W.tape
 output:w1.output=W.output
 cells:∀i vs el g z,h1.tr.get i=some (.cells vs el g z)->(∀a∈vs,AV.low 0 a=true)->∀o a,vs[o]? =some a->∃v,w1.cell? ⟨bl i,o,none⟩=some v∧RV dI a v
theorem the_run2{E:Env}(X:vo P E I)(V:∀w,vo P (E.at w) I)(q:∀w,uz (E.at w) I=true){L:WgLink}(H:WgLib P L)(Y:∀b o,E.old b o=none){f0 r:AF}(hf0:iW E fid argsA false=some f0)
 (A:DoesS P E f0 CX r h1)(D:h1.df=0)(hn1:h1.nx<=OLD)(ht:Gs r.tm=true)(hp1:yR r.todo=true)(J:r.ds=[])(hx1:r.x.round=none)(W:World)(args:Array Value)(s:dJ dI argsA args.toList)
 (t:∀(w1:World) (m:Nat->Nat),Laid h1 W w1 m->∃(l:OS) (h2:AH),Path P (E.at w1) I L.done L.tWg out ⟨r.reb m,[],CX⟩ l∧l.k=[]∧iw (E.at w1) l.f l.h=some (.ret v h2)∧l.f.ret=true∧l.f.ds=[]∧l.f.x.deferred=false∧l.h.df=0∧P.inits.idxOf? l.f.x.fn=none):
 ∃M last o w' U,runNT P (M+1) (solo (G (Frame.enter P fid args .normal) []) W) #[]=(.ended o w',U)∧runN P M (solo (G (Frame.enter P fid args .normal) []) W)= .next last∧step P last= .ended o w'∧Conc.Good P (Ends W v) last o w' U:=by
 have hK0:Of (now P W) P E:=⟨rfl,λb o a e=>(by rw[Y]at e;cases e),λ_=>trivial⟩;have W1:=A.2.2 (now P W) dI W (Frame.enter P fid args .normal) [] hK0 (Ch P (λ_ _ h=>h) W) (kL X.FF hf0 s rfl) (λi _ hi=>by unfold dI;rw[au (by omega)]);have hA0:QJ (now P W) (λ_=>False):=λ_ _ h=>h.elim;obtain⟨N,gs1,w1,sl1,t1,n,a1,d1,q1,hN1,h01,⟨ι,fr,rfl,g1,y,g3,rfl⟩,hL1,K⟩:=wL hA0 W1 W (jW.refl W) #[G (Frame.enter P fid args .normal) []] none #[] (λ_=>0) rfl (leavers_one P _) (lI.of (past_nil.mono (bT _)));rw[D]at K;have O:Ext dI ι:=y.jU trivial;let m:Nat->Nat:=λi=>match ι i with |some p=>p.1|none=>0
 have hbl:∀i p,ι i=some p->i<OLD->m i=p.1:=λi p hp _=>by show(match ι i with |some p=>p.1|none=>0)=_;rw[hp]
 have d:Laid h1 W w1 m:=by
  refine⟨oO λhlt=>lS _ (y.bs _ hlt),y.old,y.os,y.tape,y.output,λi vs el g z e Q o a ha=>?_⟩;obtain⟨p,ob,k1,k2,k3,k4,c,lo,hi,rfl,⟨l1,l2,hc,hv⟩,_⟩:=y.objs i _ e trivial;obtain⟨u,B,hu2⟩:=hv.get ha;refine⟨u,?_,?_⟩
  .rw[show m i=p.1 from by show(match ι i with |some p=>p.1|none=>0)=_;rw[k1]]
   rw[cell_of k4,← bq,hc,aU]
   .exact B
   .rw[aJ]at B;exact B.1
  .exact RV.iX (yS O) (Q a (bE ha)) (by rw[AV.iO];exact hu2)
 obtain⟨l,h2,C,hk,hr,R,hds,hd,hdf,hin⟩:=t w1 m d;have hM:QD P (E.at w1) w1 w1.heap.size [] ⟨r.reb m,[],CX⟩ gs1 w1 sl1 t1:=
  ⟨now P w1,λ_=>False,_,q1,⟨rfl,λb o a e=>⟨trivial,Nq E w1 b o a e⟩,λ_=>trivial⟩,rfl,rfl,λ_ _ h=>h.elim,h01,⟨dI,fr,[],rfl,λi _ hi=>(by unfold dI;rw[au (by omega)]),RF.reb O hbl g3 ht hp1 J hx1,rfl,Ch P (λ_ _ h=>h) w1,rfl,λ_ _ h=>by cases h⟩,hL1,K⟩
 obtain⟨N2,gs2,w2,sl2,t2,j,hM2⟩:=Ef (V w1) (q w1) H C hM;obtain⟨N3,last,o,w',U,e1,e2,e3,e4⟩:=finish (V w1).F (V w1).FF hM2 hk hr R hds hd hdf hin (Post:=Ends W v) (λu w hv hsz S hos htp T=>
  ⟨hv,aQ d.size hsz,λb hb=>(S b (gZ hb d.size)).trans (d.old b hb),hos.trans d.os,htp.trans d.tape,T.trans d.output⟩)
 rw[solo_eq_crowd];refine⟨N+(N2+N3),last,o,w',U,?_,?_,e3,e4⟩
 .rw[pO,pO,runNT_add,n]
  simp only;rw[runNT_add,j];exact e1
 .rw[runN_add,← runNT_fst P _ _ #[],n]
  simp only;rw[runN_add,← runNT_fst P _ _ t1,j];exact e2
end
end
section
variable{g:FuncId}
def AF.adx(n:Nat)(f:AF):Bool:=match f with |⟨⟨_,_,r,_⟩,tm,td,ds,_⟩=>yO n tm&&(yR td&&((match ds with |[]=>true|_=>false)&&(match r with |none=>true|_=>false)))
theorem AF.jd{n:Nat}{f:AF}(h:f.adx n=true):f.low n:=by
 obtain⟨⟨a,b,r,c⟩,tm,td,ds,g⟩:=f;unfold AF.adx at h;simp only[av]at h;obtain⟨h1,h2,d,e⟩:=h;refine⟨h1,h2,?_,?_⟩
 .cases ds with |nil=>rfl|cons a l=>cases d
 .cases r with |none=>rfl|some a=>cases e
section
variable{P:Program}{E:Env}{f f':AF}{n Z:Nat}{h2:AH}{v:AV}
theorem DoesC.over{args:List AV}(C:DoesC P E g args ⟨.e,0,Z⟩ v ⟨.e,0,Z⟩)(b:AV.dX 0 args=true)(d:v.low 0=true){h:AH}(a:h.df=Z)(c:h.nx<=OLD):DoesC P E g args h v h:=by
 subst a;have L:QE (λi=>i) ⟨.e,0,h.df⟩ ⟨.e,0,h.df⟩ h h:=by
  refine⟨ah _,bT _,c,λ_ _ _ _ h=>h,λi hi=>aP hi (iq _),λi _ hi=>aP hi (iq _),λ_ _=>rfl,ah _,?_,?_,?_,λi o e _=> .inr ⟨e,?_⟩,rfl,rfl,rfl⟩
  all_goals (intro j o e;rw[show(⟨.e,0,h.df⟩:AH).tr= .e from rfl,Tr.dN]at e;cases e)
 have:=DoesC.frame C L b;rw[AV.pQ,AV.iO]at this;exact this
end
end
section
variable{E:Env}{P:Program}{args:List AV}{g:FuncId}{h h2:AH}{ids:List Nat}{v:AV}
def posB{α:Type}(f:Nat->Bool):Tr α->Bool
 | .e=>true
 | .n l v r=>posB (λi=>f (2*i+1)) l&&((match v with |some _=>f 0|none=>true)&&posB (λi=>f (2*i+2)) r)
theorem gW{α:Type}:∀{t:Tr α} {f:Nat->Bool},posB f t=true->∀{i:Nat} {a:α},t.get i=some a->f i=true
 | .e,f,_,i,a,e=>by rw[Tr.dN]at e;cases e
 | .n l v r,f,h,i,a,e=>by
   unfold posB at h;simp only[av]at h;rw[Tr.jh]at e;split at e
   .rename_i hi
    subst hi;rw[e]at h;exact h.2.1
   .split at e
    .have:=gW h.1 e
     rw[show 2*(i / 2)+1=i by omega]at this;exact this
    .have:=gW h.2.2 e
     rw[show 2*(i / 2 - 1)+2=i by omega]at this;exact this
theorem Px(c:h.nx<=h2.nx)(f:reach h2.tr 100000 ids .e=h.tr)(hp:posB (λi=>Nat.blt i h.nx) h.tr=true)(g:fH h.nx h.tr=true)(d:h2.df=h.df)(top:Nat.ble h2.nx OLD=true):Moves (λi=>i) h.nx h2 h:=by
 refine⟨ah _,c,aF top,d.symm,λ_ _=>rfl,λi a b=>aP b (by omega),λ_ _ _ _ e=>e,λi o e _=>⟨?_,?_⟩,g⟩
 .have:=gW hp e
  exact aF this
 .rw[AO.iO]
  rw[← f]at e;exact oH (t:=h2.tr) 100000 ids .e (λi o e=>by rw[Tr.dN]at e;cases e) i o e
theorem DoesC.drop(C:DoesC P E g args h v h2)(ids:List Nat)(c:reach h2.tr 100000 ids .e=h.tr)(hp:posB (λi=>Nat.blt i h.nx) h.tr=true)(b:fH h.nx h.tr=true)(a:h2.df=h.df)(top:Nat.ble h2.nx OLD=true)(d:AV.dX h.nx args=true)(f:v.low h.nx=true):DoesC P E g args h v h:=
 DoesC.move (ρ:=λi=>i) (by rw[AV.iO];exact C) (Px C.1 c hp b a top) d b (λi o e _=>aF (gW hp e)) f
end
section
open Go.Conc (G)
variable{n n':Nat}{ι ι':Nm}
noncomputable def Env.wo(E:Env)(old:Nat->Nat->Option AV):Env:={ E with old:=old,peek:=true }
structure Fz(K K':Ctx):Prop where
 P:K'.P=K.P
 fz:∀b,K.fz b->K'.fz b
 own:∀b,K'.own b->K.own b
 new:∀b,K'.fz b->K.fz b∨K.own b
 heap:∀b,K.fz b->K'.W0.heap[b]? =K.W0.heap[b]?
 os:K'.W0.os=K.W0.os
 tape:K'.W0.tape=K.W0.tape
 output:K'.W0.output=K.W0.output
 peek:K'.peek->K.peek
theorem Fz.refl(K:Ctx):Fz K K:=⟨rfl,λ_ h=>h,λ_ h=>h,λ_ h=> .inl h,λ_ _=>rfl,rfl,rfl,rfl,λh=>h⟩
theorem Fz.trans{K c d:Ctx}(a:Fz K c)(b:Fz c d):Fz K d:=
 ⟨b.P.trans a.P,λx h=>b.fz x (a.fz x h),λx h=>a.own x (b.own x h),λx h=>(b.new x h).elim (a.new x) (λh=> .inr (a.own x h)),
  λx h=>(b.heap x (a.fz x h)).trans (a.heap x h),b.os.trans a.os,b.tape.trans a.tape,b.output.trans a.output,λh=>a.peek (b.peek h)⟩
section
variable{P:Program}{X:Bool}{K Y:Ctx}{w Z W:World}
theorem jW.fz(s:Fz K Y)(h:jW K w Z):jW Y w Z:=by
 refine⟨h.size,λb a c=>h.own b (λe=>a (s.fz b e)) (s.own b c),λb a=>?_,h.os,h.tape,h.output⟩;by_cases d:K.fz b
 .exact h.old b d
 .exact h.own b d ((s.new b a).resolve_left d)
theorem xE.fz(s:Fz K Y){n:Nat}{e:Event}(h:xE Y n e):xE K n e:=by
 obtain⟨g,wr,j⟩:=e;have key:∀b,¬Y.fz b∧Y.own b->¬K.fz b∧K.own b:=λb c=>⟨λd=>c.1 (s.fz b d),s.own b c.2⟩;cases g with
 |cell a=>
  refine⟨?_,h.2⟩;rcases h.1 with h1|⟨h1,h2,i⟩
  .exact .inl (key _ h1)
  .by_cases c:K.fz a.block
   .exact .inr ⟨s.peek h1,c,i⟩
   .exact .inl ⟨c,(s.new _ h2).resolve_left c⟩
 |obj r=>exact⟨λd=>h.1 (s.fz _ d),s.own _ h.2.1,h.2.2⟩
 |mark m=>cases m<;>first|exact⟨λd=>h.1 (s.fz _ d),s.own _ h.2.1,h.2.2⟩|exact h
 |output=>exact h
 |goroutines=>exact h
theorem iA.fz(s:Fz K Y){es:Array Event}(h:iA Y w W es):iA K w W es:=
 ⟨h.size,λb d g=>h.kept b d λ⟨a,c⟩=>g ⟨λi=>a (s.fz b i),s.own b c⟩,λe j=>(h.evs e j).imp (xE.fz s) id,h.os,h.tape,h.output⟩
theorem Walk.fz{Stop:Nat->Goroutine->World->Prop}(s:Fz K Y){d:Nat}{g:Goroutine}(h:Walk P X Y Stop d g w):Walk P X K Stop d g w:=by
 induction h with
 |stop h=>exact .stop λZ hr=>h Z (hr.fz s)
 |step g' W es h1 h2 _ a=>
  exact .step g' W es h1 (λZ hr=>⟨(h2 Z (hr.fz s)).1,(h2 Z (hr.fz s)).2.fz s⟩) (λZ hr=>a Z (hr.fz s))
end
abbrev Old:=Nat->Nat->Option AV
def Old.le(a b:Old):Prop:=∀x o v,a x o=some v->b x o=some v
theorem Old.le_refl(a:Old):Old.le a a:=λ_ _ _ h=>h
theorem Old.le_trans{a b c:Old}(h:Old.le a b)(h':Old.le b c):Old.le a c:=λx o v e=>h' x o v (h x o v e)
def AtZ(P:Program)(E:Env)(old:Old)(K:Ctx)(ι:Nm)(nx:Nat)(x:AX)(cs:List Frame)(R:Old->AF->AH->Prop):Nat->Goroutine->World->Prop:=λd g w=>
 ∃K' ι' old' f' h' a,g=G a cs∧Fz K K'∧Of K' P (E.wo old')∧Old.le old old'∧R old' f' h'∧f'.x=x∧Grow ι ι' nx h'.nx∧Sat K' ι' h' w∧RF ι' f' a∧d=h'.df
def iU(P:Program)(E:Env)(old:Old)(f:AF)(h:AH)(R:Old->AF->AH->Prop):Prop:=
 ∀(K:Ctx) (ι:Nm) (w:World) (fr:Frame) (cs:List Frame),Of K P (E.wo old)->Sat K ι h w->RF ι f fr->Free ι h.nx OLD->
  Walk P true K (AtZ P E old K ι h.nx f.x cs R) h.df (G fr cs) w
section
variable{P:Program}{E:Env}{Z X:Old}{f f':AF}{h Y W:AH}{R R':Old->AF->AH->Prop}
theorem iU.here(H:R Z f h):iU P E Z f h R:=λK ι w fr cs a S b _=>
 .stop λw₁ hr=>⟨K,ι,Z,f,h,fr,rfl,Fz.refl K,a,Old.le_refl _,H,rfl,Grow.refl _ _,S.rely hr,b,rfl⟩
theorem Grow.R7(g:Grow ι ι' n n')(c:Free ι n OLD):Free ι' n' OLD:=λi a b=>by
 rw[g.same i (.inr a)];exact c i (by have:=g.le;omega) b
theorem iU.of(A:DoesS P (E.wo Z) f h f' Y)(m:Y.nx<=OLD)(B:f'.x=f.x->h.nx<=Y.nx->iU P E Z f' Y R):iU P E Z f h R:=λK ι w fr cs j S n k=>by
 refine(A.2.2 K ι w fr cs j S n (k.sub (ah _) m)).bind ?_
 rintro d g w' ⟨ι',b,rfl,l,o,R1,rfl⟩
 refine(B A.2.1 A.1 K ι' w' b cs j o R1 (l.R7 k)).mono ?_
 rintro d g p ⟨q,c,a,r,W,e,rfl,s,t,u,r2,i,v,y,z,rfl⟩
 exact⟨q,c,a,r,W,e,rfl,s,t,u,r2,i.trans A.2.1,l.trans v,y,z,rfl⟩
end
end
section
open Go.Conc (G)
variable{K:Ctx}{g:FuncId}{w:World}{ι:Nm}
abbrev eH:AH:=⟨.e,0,0⟩
theorem Sat.bare{h:AH}(S:Sat K ι h w):Sat K dI eH w:=
 ⟨λi o e=>(by rw[show eH.tr.get i=none from Tr.dN i]at e;cases e),λi j o a p q e=>(by rw[show eH.tr.get i=none from Tr.dN i]at e;cases e),
  S.lo,S.bs,S.old,S.os,S.tape,S.output,λ_ _ _ h=>h⟩
theorem RV.xO(b:Ext dI ι){a:AV}{v:Value}(c:a.low 0=true)(h:RV ι a v):RV dI a v:=
 RV.iX (yS b) c (by rw[AV.iO];exact h)
theorem dJ.xO(a:Ext dI ι){l:List AV}{vs:List Value}(b:AV.dX 0 l=true)(h:dJ ι l vs):dJ dI l vs:=
 dJ.iX (yS a) b (by rw[AV.pQ];exact h)
def qh(P:Program)(E:Env)(old:Old)(h:AH)(v:AV)(Q:Old->AV->Prop):Prop:=
 ∀(K:Ctx) (ι:Nm) (w:World) (u:Value),Of K P (E.wo old)->Sat K ι h w->RV ι v u->
  ∃a old' b,Fz K a∧Of a P (E.wo old')∧Old.le old old'∧Q old' b∧Sat a dI eH w∧RV dI b u
section
variable{P:Program}{E:Env}{Z:Old}{h:AH}{v:AV}{Q:Old->AV->Prop}
theorem qh.low(b:v.low 0=true)(c:Q Z v):qh P E Z h v Q:=λK ι w u a S R=>
 ⟨K,Z,v,Fz.refl K,a,Old.le_refl _,c,S.bare,RV.xO (S.jU (a.pk rfl)) b R⟩
theorem qh.slice{id off n:Nat}{cap:Option Nat}{vs:List AV}{el:TypeId}{g z:Bool}(G:h.tr.get id=some (.cells vs el g z))(s:∀a∈vs,AV.low 0 a=true)
 (H:∀(old':Old) (b c:Nat),Old.le Z old'->n<=c->(∀o a,vs[o]? =some a->old' b o=some a)->Q old' (.aO (some (b,off)) n c)):qh P E Z h (.sl id off n cap) Q:=by
 intro K ι w u A S R;have l:K.peek:=A.pk rfl;have I:=S.jU l;obtain⟨p,ob,e1,e2,J,C,L⟩:=S.objs id _ G trivial;obtain⟨c,lo,hi,rfl,⟨l1,l2,M,N⟩,_⟩:=L;have B:p.1<w.heap.size:=lt_of_heap C;unfold RV at R;obtain⟨U,t,D,rfl,y,_⟩:=R;rw[e1]at t;cases t;let old':Old:=λb o=>if b=p.1 then vs[o]? else Z b o;let O:Ctx:={ P:=K.P,W0:=w,fz:=λb=>K.fz b∨b=p.1,lo:=w.heap.size,own:=λb=>K.own b∧b≠p.1,lN:=λb d=>⟨K.lN b (aQ S.lo d),by omega⟩,peek:=K.peek };have m:Old.le Z old':=by
  intro b o a e;show(if b=p.1 then vs[o]? else Z b o)=some a;by_cases d:b=p.1
  .exfalso
   have:=(A.mem b o a e).2.1;rw[d]at this;exact e2 this
  .rw[au d];exact e
 refine⟨O,old',.aO (some (p.1,off)) n D,⟨rfl,λb d=> .inl d,λb d=>d.1,λb d=>d.imp (λd=>d) (λd=>by rw[d];exact J),λb d=>S.old b d,S.os,S.tape,S.output,λhp=>hp⟩,⟨A.P,λb o a e=>?_,λ_=>l⟩,m,?_,?_,?_⟩
 .have e:(if b=p.1 then vs[o]? else Z b o)=some a:=e
  by_cases d:b=p.1
  .rw[aH d]at e
   obtain⟨x,k,r⟩:=N.get e;refine⟨l,.inr d,x,?_,RV.xO I (s a (bE e)) r⟩;show w.cell? ⟨b,o,none⟩=some x;rw[d,cell_of C,← bq,M,aU]
   .exact k
   .rw[aJ]at k;exact k.1
  .rw[au d]at e
   obtain⟨_,F,x,k,r⟩:=A.mem b o a e;refine⟨l,.inl F,x,?_,r⟩;show w.cell? ⟨b,o,none⟩=some x;unfold World.cell? at k ⊢;rw[S.old b F];exact k
 .exact H old' p.1 D m y λo a e=>by show(if p.1=p.1 then vs[o]? else Z p.1 o)=some a;rw[aH rfl];exact e
 .exact⟨λi o e=>(by rw[show eH.tr.get i=none from Tr.dN i]at e;cases e),λi j o V p q e=>(by rw[show eH.tr.get i=none from Tr.dN i]at e;cases e),
   ah _,λb d=>d.elim (S.bs b) (λd=>by rw[d];exact B),λ_ _=>rfl,rfl,rfl,rfl,λ_ _ _ h=>h⟩
 .unfold RV;exact⟨none,rfl,y,λT=>(by cases T),λ_=>rfl⟩
end
def AtV(P:Program)(E:Env)(old:Old)(K:Ctx)(W:World)(c:Frame)(a:List Frame)(Q:Old->AV->Prop):Nat->Goroutine->World->Prop:=λd g w=>
 ∃e old' v u,g=G (back .normal c u) a∧Fz K e∧Of e P (E.wo old')∧Old.le old old'∧Q old' v∧RV dI v u∧Sat e dI eH w∧d=0∧
  W.heap.size<=w.heap.size∧∀b,b<W.heap.size->¬K.fz b->K.own b->e.own b∧¬e.fz b∧w.heap[b]? =W.heap[b]?
def dU(P:Program)(E:Env)(old:Old)(g:FuncId)(args:List AV)(Q:Old->AV->Prop):Prop:=
 ∀(K:Ctx) (w:World) (vs:Array Value) (c:Frame) (a:List Frame),Of K P (E.wo old)->Sat K dI eH w->dJ dI args vs.toList->
  Walk P true K (AtV P E old K w c a Q) 0 (G (Frame.enter P g vs .normal) (c::a)) w
section
variable{P:Program}{E:Env}{Z:Old}{f f':AF}{h h1:AH}{Q:Old->AV->Prop}{R:Old->AF->AH->Prop}
theorem dU.ofD{args:List AV}{v:AV}{G:AH}(D:DoesC P (E.wo Z) g args eH v G)(H:G.nx<=OLD)(I:G.df=0)(t:qh P E Z G v Q):dU P E Z g args Q:=by
 intro K w vs c l J S T;let x:Ctx:={ P:=K.P,W0:=K.W0,fz:=K.fz,lo:=w.heap.size,own:=λb=>K.own b∧w.heap.size<=b,lN:=λb a=>⟨K.lN b (aQ S.lo a),a⟩,peek:=K.peek };have y:Sub x K:=⟨rfl,rfl,rfl,λ_ h=>h.1,λh=>h⟩;have U:Sat x dI eH w:=⟨λi o e=>(by rw[show eH.tr.get i=none from Tr.dN i]at e;cases e),S.bare.inj,ah _,S.bs,S.old,S.os,S.tape,S.output,λ_ _ _ h=>h⟩;have z:Of x P (E.wo Z):=⟨J.P,J.mem,J.pk⟩;have n:Free dI 0 OLD:=λi _ b=>by unfold dI;rw[au (by omega)]
 have V:=D.2 x dI w vs c l z U T (λA=>by cases A) (n.sub (ah _) H);refine(V.frame y (Kept.refl _ _ _) (Stop:=AtV P E Z K w c l Q) ?_)
 rintro d W L B ⟨M,u,rfl,g2,X,Y,rfl⟩
 obtain⟨r,C,v2,k,N,l2,hQ,s,O⟩:=t x M L u z X Y;let K3:Ctx:={ P:=r.P,W0:=r.W0,fz:=r.fz,lo:=r.lo,own:=λb=>r.own b∨(K.own b∧b<w.heap.size),lN:=λb a=> .inl (r.lN b a),peek:=r.peek };refine⟨K3,C,v2,u,rfl,⟨k.P,k.fz,λb a=>a.elim (λa=>(k.own b a).1) (·.1),λb a=>(k.new b a).imp (λh=>h) (·.1),k.heap,k.os,k.tape,k.output,k.peek⟩,⟨N.P,N.mem,N.pk⟩,l2,hQ,O,
  ⟨λi o e=>(by rw[show eH.tr.get i=none from Tr.dN i]at e;cases e),λi j o o' p q e=>(by rw[show eH.tr.get i=none from Tr.dN i]at e;cases e),s.lo,s.bs,s.old,s.os,s.tape,s.output,λ_ _ _ h=>h⟩,I,B.size,λb a F m=>⟨.inr ⟨m,a⟩,λA=>?_,B.same b a F m λA=>aP A.2 (by omega)⟩⟩
 rcases k.new b A with h'|h'
 .exact F h'
 .exact aP h'.2 (by omega)
end
end
section
open Go.Conc (G)
variable{g:FuncId}
section
variable{P:Program}{E:Env}{Z:Old}{f X:AF}{h Y:AH}{Q:Old->AV->Prop}{R:Old->AF->AH->Prop}
theorem iU.Xi(F:Fits P (E.wo Z))(FF:dM P (E.wo Z)){d:Option Tmp}{args:List AV}(e:iw (E.wo Z) f h=some (.call X d g args Y))(m:AV.dX 0 args=true)(n:Y.df=0)(U:Y.nx<=OLD)
 (C:dU P E Z g args Q)(B:∀old' v,Old.le Z old'->Q old' v->iU P E old' (vZ (X,d) v) Y R):iU P E Z f h R:=by
 have hu:h.nx<=Y.nx:=oz e;have V:X.x=f.x:=vX e;intro K ι w fr cs D S RR M;refine Walk.of rfl λr a=>?_;have s:=S.rely a;have b:wJ P true K ι h r fr cs _:=step_ok D F FF s RR e;obtain⟨ι',c,vs,w',es,k1,N,A,k4,⟨k5,k5'⟩,k6,k7⟩:=b (M.sub (ah _) U);refine⟨_,w',es,k1,k6,?_⟩;rw[k7,n];have G:=D.pk rfl;have H:=A.jU G;refine(C K w' vs c cs D A.bare (dJ.xO H m k4)).bind ?_
 rintro d' g' t ⟨O,old',v,u,rfl,z,p',l,q,rv,k,rfl,hsz,j⟩
 have SK:Sat O ι' Y t:=by
  refine⟨λi o e hl=>?_,A.inj,k.lo,k.bs,k.old,k.os,k.tape,k.output,λ_=>H⟩;obtain⟨p,ob,e1,e2,e3,T,e5⟩:=A.objs i o e hl;obtain⟨m1,m2,m3⟩:=j p.1 (lt_of_heap T) e2 e3;exact⟨p,ob,e1,m2,m1,m3.trans T,by rw[z.P];exact e5⟩
 have RK:RF ι' (vZ (X,d) v) (c.finish u):=k5 ι' v u (Ext.refl _) (rv.mono H);have W:=(B old' v l q O ι' t (c.finish u) cs p' SK RK (N.R7 M)).fz z;rw[n]at W;refine W.mono ?_
 rintro d g w3 ⟨K2,I,y,f2,h2,J,rfl,a2,b2,c2,r2,L,g2,S2,R2,rfl⟩
 exact⟨K2,I,y,f2,h2,J,rfl,z.trans a2,b2,Old.le_trans l c2,r2,L.trans V,N.trans g2,S2,R2,rfl⟩
end
end
section
open Go.Conc
open Go.Conc.Lib (WgLib WgLink)
section
variable{P:Program}{I:nN}{W:World}{Z:Nat}
def Last(P:Program)(E:Env)(v:AV):Old->AF->AH->Prop:=λold' f' h'=>
 (∃a,iw (E.wo old') f' h'=some (.ret v a))∧f'.ret=true∧f'.ds=[]∧f'.x.deferred=false∧h'.df=0∧P.inits.idxOf? f'.x.fn=none
theorem Zn{E:Env}(F:∀old,Fits P (E.wo old))(FF:∀old,dM P (E.wo old)){old:Old}{L:OS}{g:Array Goroutine}{w0:World}{i:Option (Nat×Nat)}{t0:Trace}(HM:QD P (E.wo old) W Z [] L g w0 i t0)(hk:L.k=[]){v:AV}(A:iU P E old L.f L.h (Last P E v))
 {Post:Value->World->Prop}(p:∀u w,(∃ι,RV ι v u)->Z<=w.heap.size->(∀b,b<Z->w.heap[b]? =W.heap[b]?)->w.os=W.os->w.tape=W.tape->w.output=W.output->Post u w):
 ∃M last o w' O,runNT P (M+1) (crowd g w0 i) t0=(.ended o w',O)∧runN P M (crowd g w0 i)= .next last∧step P last= .ended o w'∧Conc.Good P Post last o w' O:=by
 obtain⟨U,Shun,a,q,H,j,V,X,r,⟨Y,fr0,frs,rfl,hB,R0,Q,S0,_,_⟩,hL,T⟩:=HM;rw[hk]at Q;have Q:frs=[]:=Q;subst Q;obtain⟨N,gs1,w1,sl1,t1,l,a1,d1,q1,hN1,r,⟨K,ι,m,f1,h1,fr,rfl,z,hKP,hl,⟨⟨h2,hr⟩,J,hds,hd,hdf,hin⟩,hx,hg,S,R,rfl⟩,hL,T⟩:=
  wL X (A U Y w0 fr0 [] H S0 R0 (hB.free (ah _))) w0 (jW.refl w0) g i t0 q r hL T
 rw[hdf]at T;have s:fr.kind= .normal:=by rw[R.kind,hd];rfl
 obtain⟨M,last,o,w',O,e1,e2,e3,e4⟩:=beside_ends (P:=P) (Shun:=Shun) (B:=w1.heap.size) (D:=λ_ _ _=>False) (Post:=Post) (sl:=sl1) (n:=0) (λ_ _ _ h=>h.elim) r hL T.to (λw₂ hw=>by
  obtain⟨d,rfl⟩:=hw;have c:Sat K ι h1 (w1.at d):=S.rely (jW.drawn w1 d);obtain⟨u,es,g1,g2,C⟩:=PZ (F m) (FF m) hKP c R hr J hds;have t:∀b,b<Z->U.fz b:=λb y=>by rw[V];exact y
  have hE:Post u (w1.at d):=p _ _ ⟨ι,g2⟩ (oO λhlt=>lS _ (c.bs _ (z.fz _ (t _ hlt)))) (λb y=>(c.old b (z.fz b (t b y))).trans ((z.heap b (t b y)).trans (by rw[j])))
   (by rw[c.os,z.os,j]) (by rw[c.tape,z.tape,j]) (by rw[c.output,z.output,j])
  have C:∀e∈es,xE U (w1.at d).heap.size e:=λe G=>xE.fz z (C e G);refine⟨rfl,u,es,?_,λe G=>⟨λx hx hs=>?_,(C e G).still.1,(C e G).still.2,CS (.inl (C e G))⟩,hE⟩
  .rw[g1]
   unfold doReturn;simp only[s,R.fn,hin];simp[GStep.after]
  .obtain⟨b,y,hb1,_⟩:=xq (.inl (C e G)) hx
   exact aP hb1 λh=>h.elim (X _ b hs y).1 (X _ b hs y).2)
 refine⟨N+M,last,o,w',O,?_,?_,e3,e4⟩
 .rw[pO,runNT_add,l];exact e1
 .rw[runN_add,← runNT_fst P _ _ t0,l];exact e2
theorem the_run3{E:Env}(X:vo P E I)(V:∀old,vo P (E.wo old) I)(q:∀w,uz (E.at w) I=true){L:WgLink}(H:WgLib P L){out:List FuncId}{fid:FuncId}{j:List AV}(Y:∀b o,E.old b o=none){f0 r:AF}{h1:AH}(hf0:iW E fid j false=some f0)
 (A:DoesS P E f0 CX r h1)(D:h1.df=0)(hn1:h1.nx<=OLD)(ht:Gs r.tm=true)(hp1:yR r.todo=true)(J:r.ds=[])(hx1:r.x.round=none)(W:World)(args:Array Value)(s:dJ dI j args.toList){v:AV}
 (t:∀(w1:World) (m:Nat->Nat),Laid h1 W w1 m->∃(K:OS),Path P (E.at w1) I L.done L.tWg out ⟨r.reb m,[],CX⟩ K∧K.k=[]∧iU P E (ES w1) K.f K.h (Last P E v)):
 ∃M last o w' U,runNT P (M+1) (solo (G (Frame.enter P fid args .normal) []) W) #[]=(.ended o w',U)∧runN P M (solo (G (Frame.enter P fid args .normal) []) W)= .next last∧step P last= .ended o w'∧Conc.Good P (Ends W v) last o w' U:=by
 have hK0:Of (now P W) P E:=⟨rfl,λb o a e=>(by rw[Y]at e;cases e),λ_=>trivial⟩;have W1:=A.2.2 (now P W) dI W (Frame.enter P fid args .normal) [] hK0 (Ch P (λ_ _ h=>h) W) (kL X.FF hf0 s rfl) (λi _ hi=>by unfold dI;rw[au (by omega)]);have hA0:QJ (now P W) (λ_=>False):=λ_ _ h=>h.elim;obtain⟨N,gs1,w1,sl1,t1,n,a1,d1,q1,hN1,h01,⟨ι,fr,rfl,g1,y,g3,rfl⟩,hL1,O⟩:=wL hA0 W1 W (jW.refl W) #[G (Frame.enter P fid args .normal) []] none #[] (λ_=>0) rfl (leavers_one P _) (lI.of (past_nil.mono (bT _)));rw[D]at O;have Q:Ext dI ι:=y.jU trivial;let m:Nat->Nat:=λi=>match ι i with |some p=>p.1|none=>0
 have hbl:∀i p,ι i=some p->i<OLD->m i=p.1:=λi p hp _=>by show(match ι i with |some p=>p.1|none=>0)=_;rw[hp]
 have d:Laid h1 W w1 m:=by
  refine⟨oO λhlt=>lS _ (y.bs _ hlt),y.old,y.os,y.tape,y.output,λi vs el g z e R o a ha=>?_⟩;obtain⟨p,ob,k1,k2,k3,k4,c,lo,hi,rfl,⟨l1,l2,hc,hv⟩,_⟩:=y.objs i _ e trivial;obtain⟨u,B,hu2⟩:=hv.get ha;refine⟨u,?_,?_⟩
  .rw[show m i=p.1 from by show(match ι i with |some p=>p.1|none=>0)=_;rw[k1]]
   rw[cell_of k4,← bq,hc,aU]
   .exact B
   .rw[aJ]at B;exact B.1
  .exact RV.iX (yS Q) (R a (bE ha)) (by rw[AV.iO];exact hu2)
 obtain⟨K,C,hk,hZ⟩:=t w1 m d;have hM:QD P (E.at w1) w1 w1.heap.size [] ⟨r.reb m,[],CX⟩ gs1 w1 sl1 t1:=
  ⟨now P w1,λ_=>False,_,q1,⟨rfl,λb o a e=>⟨trivial,Nq E w1 b o a e⟩,λ_=>trivial⟩,rfl,rfl,λ_ _ h=>h.elim,h01,⟨dI,fr,[],rfl,λi _ hi=>(by unfold dI;rw[au (by omega)]),RF.reb Q hbl g3 ht hp1 J hx1,rfl,Ch P (λ_ _ h=>h) w1,rfl,λ_ _ h=>by cases h⟩,hL1,O⟩
 obtain⟨N2,gs2,w2,sl2,t2,l,hM2⟩:=Ef (V (ES w1)) (q w1) H C hM;obtain⟨N3,last,o,w',U,e1,e2,e3,e4⟩:=Zn (λold=>(V old).F) (λold=>(V old).FF) hM2 hk hZ (Post:=Ends W v) (λu w hv hsz S hos htp T=>
  ⟨hv,aQ d.size hsz,λb hb=>(S b (gZ hb d.size)).trans (d.old b hb),hos.trans d.os,htp.trans d.tape,T.trans d.output⟩)
 rw[solo_eq_crowd];refine⟨N+(N2+N3),last,o,w',U,?_,?_,e3,e4⟩
 .rw[pO,pO,runNT_add,n]
  simp only;rw[runNT_add,l];exact e1
 .rw[runN_add,← runNT_fst P _ _ #[],n]
  simp only;rw[runN_add,← runNT_fst P _ _ t1,l];exact e2
end
end
noncomputable def FN(E:Env)(ts tx:TypeId):Option (TypeId×Nat):=
 match E.tt.get ts,E.tt.get tx with
 |some { d:= .slice e,.. },some b=>
  match E.tt.get e with
  |none=>none
  |some a=>cond (match b.d with | .int _=>true|_=>Nat.beq a.bytes 0||Nat.beq a.size 0||Nat.blt 4096 a.bytes) none (some (e,a.size))
 |_,_=>none
section
variable{E:Env}{h:AH}{e:TypeId}{sz n:Nat}{c:List AV}
noncomputable def Oi(E:Env)(h:AH)(e:TypeId)(sz n:Nat)(c:List AV)(s x:AV):Option (AV×AH):=(match s with
 | .aM=>cond (Nat.beq n 0) (some (.aM,h)) (some (.sl h.nx 0 n none,h.new (.cells c e true false)))
 | .sl id off len (some cap)=>
   cond (Nat.ble (len+n) cap)
    ((dD h id (off+len*sz) c).map λh'=>(.sl id off (len+n) (some cap),h'))
    (cond (Nat.blt 268435456 (len+cap)) none <| (jw E h id off (len*sz)).map λold=>(.sl h.nx 0 (len+n) none,h.new (.cells (old++c) e true false)))
 | .sl id 0 len none=>
   cond (Nat.blt 268435456 len) none <|
   match h.obj id with
   | .cells vs el true false=>
     cond (Nat.beq el e&&Nat.ble (len*sz) vs.length&&lu c&&(match x with | .sl a _ _ _=> !Nat.beq id a|_=>true))
      (some (.sl h.nx 0 (len+n) none,(h.put id .dead).new (.cells (vs.take (len*sz)++c) e true false))) none
   |_=>none
 |_=>none)
end
theorem rO{E:Env}{h:AH}{ts tx e:TypeId}{sz:Nat}(a:FN E ts tx=some (e,sz)){s x:AV}{n:Nat}{c:List AV}(l:O9 E h sz x=some (n,c))(q:n<=268435456):
 nM E h ts tx s x=Oi E h e sz n c s x:=by
 unfold FN at a;unfold nM;split at a
 .rename_i ti r _ _ _ m h1 o
  rw[h1,o];simp only;split at a
  .cases a
  .rename_i b f
   rw[f];simp only;have i:Nat.blt 268435456 n=false:=by
    cases p:Nat.blt 268435456 n with
    |false=>rfl
    |true=>simp[Nat.blt]at p;omega
   obtain⟨d,t,u,v⟩:=m;cases j:(Nat.beq b.bytes 0||Nat.beq b.size 0||Nat.blt 4096 b.bytes)with
   |true=>cases d<;>simp only[j,bA]at a<;>cases a
   |false=>
    cases d
    case int=>cases a
    all_goals
     simp only[j,bC]at a ⊢;cases a;rw[l];simp only[i,bC];unfold Oi;cases s
     case sl id off len cap=>
      cases cap with
      |some cap=>rfl
      |none=>
       cases off with
       |succ off=>rfl
       |zero=>
        simp only;cases k:Nat.blt 268435456 len with
        |true=>rfl
        |false=>
         simp only[bC];cases w:h.obj id
         case cells vs el g z=>cases g<;>cases z<;>first|rfl|(cases x<;>rfl)
         all_goals rfl
     all_goals rfl
 .cases a
theorem Mr{E:Env}{h:AH}{sz a o n c:Nat}{cells:List AV}(b:E.peek=true)(d:iI E.old a o (n*sz)=some cells):O9 E h sz (l9 E (.aO (some (a,o)) n c))=some (n,cells):=by
 show O9 E h sz (cond E.peek (cond (Nat.beq n 0) .emp (.sl (OLD+a) o n (some c))) .any)=_;rw[b];cases n with
 |zero=>rw[jJ]at d;cases d;rfl
 |succ n=>
 show O9 E h sz (.sl (OLD+a) o (n+1) (some c))=_;show(jw E h (OLD+a) o ((n+1)*sz)).map (λc=>(n+1,c))=_;unfold jw;rw[aW (show OLD<=OLD+a from dZ _ _),bA,dK,d];rfl
theorem Ij{E:Env}{h:AH}{ts tx e:TypeId}{sz:Nat}(d:FN E ts tx=some (e,sz))(a:E.peek=true){id off b o n c:Nat}{cells:List AV}(h0:0<n)(f:n<=268435456)(g:iI E.old b o (n*sz)=some cells)(i:jw E h id off (0*sz)=some []):
 jv E h .append [.sl id off 0 (some 0),.aO (some (b,o)) n c] [ts,tx]=some (.val (.sl h.nx 0 n none) (h.new (.cells cells e true false))):=by
 show(nM E h ts tx (.sl id off 0 (some 0)) (l9 E (.aO (some (b,o)) n c))).map _=_;rw[rO d (Mr a g) f];unfold Oi;simp only;rw[show Nat.ble (0+n) 0=false from by
  cases j:Nat.ble (0+n) 0 with
  |false=>rfl
  |true=>have:=aF j;omega]
 simp only[bC];rw[i,show(0+n)=n from gF n];rfl
theorem Og{E:Env}{h h':AH}{ts tx e:TypeId}{sz:Nat}(d:FN E ts tx=some (e,sz))(a:E.peek=true){id off b o c:Nat}(f:dD h id (off+0*sz) []=some h'):
 jv E h .append [.sl id off 0 (some 0),.aO (some (b,o)) 0 c] [ts,tx]=some (.val (.sl id off 0 (some 0)) h'):=by
 show(nM E h ts tx (.sl id off 0 (some 0)) (l9 E (.aO (some (b,o)) 0 c))).map _=_;rw[rO d (Mr (n:=0) (cells:=[]) a (by rw[jJ];rfl)) (by omega)];unfold Oi;simp only;rw[show Nat.ble (0+0) 0=true from rfl];simp only[bA];rw[f];rfl
theorem rM{E:Env}{h:AH}{ts tx e:TypeId}{sz:Nat}(d:FN E ts tx=some (e,sz)){id len id2 off2:Nat}{cc:Option Nat}{vs cs:List AV}(f:h.obj id= .cells vs e true false)(a:vs.length=len*sz)(k:len<=268435456)(g:jw E h id2 off2 (1*sz)=some cs)(i:lu cs=true)(b:Nat.beq id id2=false):
 jv E h .append [.sl id 0 len none,.sl id2 off2 1 cc] [ts,tx]=some (.val (.sl h.nx 0 (len+1) none) ((h.put id .dead).new (.cells (vs++cs) e true false))):=by
 show(nM E h ts tx (.sl id 0 len none) (.sl id2 off2 1 cc)).map _=_;rw[rO d (n:=1) (c:=cs) (by show(jw E h id2 off2 (1*sz)).map (λc=>(1,c))=_;rw[g];rfl) (by omega)];unfold Oi;simp only;rw[show Nat.blt 268435456 len=false from by
  cases j:Nat.blt 268435456 len with
  |false=>rfl
  |true=>simp[Nat.blt]at j;omega]
 simp only[bC];rw[f];simp only;rw[show Nat.beq e e=true from Nat.beq_refl e,show Nat.ble (len*sz) vs.length=true from aW (by omega),i,b,← a,List.take_length];rfl
section
open Go.Conc (G)
variable{g:FuncId}
def AtR(P:Program)(E:Env)(old:Old)(K:Ctx)(c:Frame)(a:List Frame)(Q:Old->AV->Prop):Nat->Goroutine->World->Prop:=λd g w=>
 ∃b old' v u,g=G (back .normal c u) a∧Fz K b∧Of b P (E.wo old')∧Old.le old old'∧Q old' v∧RV dI v u∧Sat b dI eH w∧d=0
def bO(P:Program)(E:Env)(old:Old)(f:AF)(h:AH)(Q:Old->AV->Prop):Prop:=
 ∀(K:Ctx) (ι:Nm) (w:World) (fr c:Frame) (a:List Frame),Of K P (E.wo old)->Sat K ι h w->RF ι f fr->Free ι h.nx OLD->fr.kind= .normal->
  Walk P true K (AtR P E old K c a Q) h.df (G fr (c::a)) w
section
variable{P:Program}{E:Env}{Z:Old}{f f':AF}{h Y X:AH}{Q Q':Old->AV->Prop}
theorem AtR.up{K j:Ctx}{old':Old}{c:Frame}{i:List Frame}(z:Fz K j)(l:Old.le Z old'){d:Nat}{g:Goroutine}{w:World}(H:AtR P E old' j c i Q d g w):AtR P E Z K c i Q d g w:=by
 obtain⟨k,o2,v,u,a,b,p,e,q⟩:=H;exact⟨k,o2,v,u,a,z.trans b,p,Old.le_trans l e,q⟩
theorem bO.of(A:DoesS P (E.wo Z) f h f' Y)(j:Y.nx<=OLD)(B:bO P E Z f' Y Q):bO P E Z f h Q:=λK ι w fr c a e S R i k=>by
 refine(A.2.2 K ι w fr (c::a) e S R (i.sub (ah _) j)).bind ?_
 rintro d g w' ⟨ι',b,rfl,l,m,R1,rfl⟩
 exact B K ι' w' b c a e m R1 (l.R7 i) ((R.mQ R1 A.2.1).trans k)
theorem bO.Xi(F:Fits P (E.wo Z))(FF:dM P (E.wo Z)){L:Old->AV->Prop}{d:Option Tmp}{args:List AV}(e:iw (E.wo Z) f h=some (.call f' d g args Y))(n:AV.dX 0 args=true)(r:Y.df=0)(U:Y.nx<=OLD)
 (C:dU P E Z g args L)(B:∀old' v,Old.le Z old'->L old' v->bO P E old' (vZ (f',d) v) Y Q):bO P E Z f h Q:=by
 have V:f'.x=f.x:=vX e;intro K ι w fr cc a D S M N hk;refine Walk.of rfl λs c=>?_;have t:=S.rely c;have j:wJ P true K ι h s fr (cc::a) _:=step_ok D F FF t M e;obtain⟨ι',b,vs,w',es,k1,k2,A,k4,⟨k5,k5'⟩,k6,k7⟩:=j (N.sub (ah _) U);refine⟨_,w',es,k1,k6,?_⟩;rw[k7,r];have G:=D.pk rfl;have I:=A.jU G;refine(C K w' vs b (cc::a) D A.bare (dJ.xO I n k4)).bind ?_
 rintro d' g' y ⟨O,old',v,u,rfl,z,p',l,q,rv,m,rfl,hsz,k⟩
 have SK:Sat O ι' Y y:=by
  refine⟨λi o e hl=>?_,A.inj,m.lo,m.bs,m.old,m.os,m.tape,m.output,λ_=>I⟩;obtain⟨p,ob,e1,e2,e3,R,e5⟩:=A.objs i o e hl;obtain⟨m1,m2,m3⟩:=k p.1 (lt_of_heap R) e2 e3;exact⟨p,ob,e1,m2,m1,m3.trans R,by rw[z.P];exact e5⟩
 have T:RF ι' (vZ (f',d) v) (b.finish u):=k5 ι' v u (Ext.refl _) (rv.mono I);have J:(b.finish u).kind= .normal:=(M.mQ T (show(vZ (f',d) v).x=f.x from V)).trans hk;have W:=(B old' v l q O ι' y (b.finish u) cc a p' SK T (k2.R7 N) J).fz z;rw[r]at W;exact W.mono λ_ _ _ H=>AtR.up z l H
theorem RF.iX{n:Nat}{ρ:Nat->Nat}{ι b:Nm}(c:zK n ρ ι b){f:AF}{fr:Frame}(a:f.low n)(R:RF ι (f.ren ρ) fr):RF b f fr:=by
 refine⟨R.fn,RT.iX c a.tm R.tm,rF a.todo R.todo,?_,R.mode,R.kind,?_⟩
 .have:=R.ds
  have e:(f.ren ρ).ds=f.ds:=rfl;rw[e,a.ds]at this;rw[a.ds];exact this
 .have:=R.round
  have e:(f.ren ρ).x=f.x:=rfl;rw[e,a.round]at this;rw[a.round];exact this
theorem bO.ren{ρ:Nat->Nat}{h':AH}(B:bO P E Z f' h' Q)(t:h'.df=h.df)(e:f=f'.ren ρ)(k:f'.low h'.nx)(A:fH h'.nx h'.tr=true)(l:∀i j,i<h'.nx->j<h'.nx->ρ i=ρ j->i=j)
 (d:∀i o,h'.tr.get i=some o->o.live->i<h'.nx∧h.tr.get (ρ i)=some (o.ren ρ))(m:∀i,OLD<=i->ρ i=i):bO P E Z f h Q:=λK ι w fr c n C S R N D=>by
 subst e;let g:Nm:=λi=>if i<h'.nx∨OLD<=i then ι (ρ i)else none;have x:zK h'.nx ρ ι g:=λi p hi hp=>by show(if i<h'.nx∨OLD<=i then ι (ρ i)else none)=some p;rw[aH hi];exact hp
 have F:Sat K g h' w:=by
  refine⟨λi o e y=>?_,λi j o G p q e1 e2 l1 l2 hp s u=>?_,S.lo,S.bs,S.old,S.os,S.tape,S.output,λv i p hi=>?_⟩
  .obtain⟨Y,X⟩:=d i o e y
   obtain⟨p,ob,e1,e2,H,I,J⟩:=S.objs (ρ i) (o.ren ρ) X (AO.dS.2 y);exact⟨p,ob,by show(if i<h'.nx∨OLD<=i then ι (ρ i)else none)=some p;rw[aH (.inl Y)];exact e1,e2,H,I,RO.iX x (nX A e) J⟩
  .obtain⟨Y,X⟩:=d i o e1 l1
   obtain⟨z,L⟩:=d j G e2 l2;have hp:(if i<h'.nx∨OLD<=i then ι (ρ i)else none)=some p:=hp;have s:(if j<h'.nx∨OLD<=j then ι (ρ j)else none)=some q:=s;rw[aH (.inl Y)]at hp;rw[aH (.inl z)]at s;exact l i j Y z (S.inj (ρ i) (ρ j) _ _ p q X L (AO.dS.2 l1) (AO.dS.2 l2) hp s u)
  .have r:OLD<=i:=by
    unfold dI at hi;rcases aZ i OLD with Y|Y
    .rw[au (by omega)]at hi;cases hi
    .exact Y
   show(if i<h'.nx∨OLD<=i then ι (ρ i)else none)=some p;rw[aH (.inr r),m i r];exact S.jU v i p hi
 have M:RF g f' fr:=RF.iX x k R;have W:=B K g w fr c n C F M (λi a b=>by show(if i<h'.nx∨OLD<=i then ι (ρ i)else none)=none;rw[au (by omega)]) D;rw[t]at W;exact W
theorem dU.KT{args:List AV}(FF:dM P (E.wo Z))(I:(iW (E.wo Z) g args false).isSome=true)(A:bO P E Z (ent (E.wo Z) g args) eH Q):dU P E Z g args Q:=by
 intro K w vs c l B S J;let z:Ctx:={ P:=K.P,W0:=K.W0,fz:=K.fz,lo:=w.heap.size,own:=λb=>K.own b∧w.heap.size<=b,lN:=λb a=>⟨K.lN b (aQ S.lo a),a⟩,peek:=K.peek };have s:Sub z K:=⟨rfl,rfl,rfl,λ_ h=>h.1,λh=>h⟩;have L:Sat z dI eH w:=⟨λi o e=>(by rw[show eH.tr.get i=none from Tr.dN i]at e;cases e),S.bare.inj,ah _,S.bs,S.old,S.os,S.tape,S.output,λ_ _ _ h=>h⟩;have C:Of z P (E.wo Z):=⟨B.P,B.mem,B.pk⟩;cases D:iW (E.wo Z) g args false with
 |none=>rw[D]at I;cases I
 |some f0=>
  have t:ent (E.wo Z) g args=f0:=by unfold Ev.ent;rw[D]
  rw[t]at A;have M:=A z dI w (Frame.enter P g vs .normal) c l C L (kL FF D J rfl) (λi _ b=>by unfold dI;rw[au (by omega)]) rfl;refine(M.frame s (Kept.refl _ _ _) (Stop:=AtV P E Z K w c l Q) ?_)
  rintro d N O v ⟨n,x,v2,u,rfl,k,F,l2,R,G,r,rfl⟩
  let T:Ctx:={ P:=n.P,W0:=n.W0,fz:=n.fz,lo:=n.lo,own:=λb=>n.own b∨(K.own b∧b<w.heap.size),lN:=λb a=> .inl (n.lN b a),peek:=n.peek };refine⟨T,x,v2,u,rfl,⟨k.P,k.fz,λb a=>a.elim (λa=>(k.own b a).1) (·.1),λb a=>(k.new b a).imp (λh=>h) (·.1),k.heap,k.os,k.tape,k.output,k.peek⟩,⟨F.P,F.mem,F.pk⟩,l2,R,G,
   ⟨λi o e=>(by rw[show eH.tr.get i=none from Tr.dN i]at e;cases e),λi j o U p q e=>(by rw[show eH.tr.get i=none from Tr.dN i]at e;cases e),r.lo,r.bs,r.old,r.os,r.tape,r.output,λ_ _ _ h=>h⟩,rfl,v.size,λb a y m=>⟨.inr ⟨m,a⟩,λH=>?_,v.same b a y m λH=>aP H.2 (by omega)⟩⟩
  rcases k.new b H with h'|h'
  .exact y h'
  .exact aP h'.2 (by omega)
end
end
section
variable{g:FuncId}
def AtCall(P:Program)(E:Env)(l:List Kk)(f:AF)(h:AH)(g:FuncId)(args:List AV)(h1:AH):Prop:=
 ∃obs:List Prop,(match sj P E l f h with |some (a,h0,o)=>(match iw E a h0 with |some (.call _ _ g args h1)=>some (g,args,h1,o)|_=>none)|none=>none)=some (g,args,h1,obs)∧All obs
noncomputable def gX(P:Program)(E:Env)(l:List Kk)(f:AF)(h:AH)(v:AV):AF:=
 match sj P E l f h with |some (a,h0,_)=>(match iw E a h0 with |some (.call f' d _ _ _)=>vZ (f',d) v|_=>f)|none=>f
section
variable{P:Program}{E:Env}{Z:Old}{f:AF}{h Y:AH}{Q:Old->AV->Prop}
theorem bO.ku(F:Fits P (E.wo Z))(FF:dM P (E.wo Z)){l:List Kk}{k:Old->AV->Prop}{args:List AV}(A:AtCall P (E.wo Z) l f h g args Y)(b:AV.dX 0 args=true)(i:Y.df=0)(m:Y.nx<=OLD)
 (C:dU P E Z g args k)(B:∀old' v,Old.le Z old'->k old' v->bO P E old' (gX P (E.wo Z) l f h v) Y Q):bO P E Z f h Q:=by
 obtain⟨obs,e,H⟩:=A;unfold gX at B;cases hp:sj P (E.wo Z) l f h with
 |none=>rw[hp]at e;cases e
 |some p=>
  obtain⟨n,h0,o⟩:=p;rw[hp]at e B;simp only at e B;cases c:iw (E.wo Z) n h0 with
  |none=>rw[c]at e;cases e
  |some a=>
   rw[c]at e B;cases a with
   |call f' d g' j q=>
    simp only at e B;cases e;exact bO.of (path_ok F FF l f h hp H) (aQ (oz c:h0.nx<=Y.nx) m) (bO.Xi F FF c b i m C B)
   |_=>cases e
end
end
section
variable{d n:Nat}{g:FuncId}{o:AO}
section
variable{P:Program}{E:Env}{f Y:AF}{Z:AH}{v:AV}
theorem Ab{t:Tr AO}{Z:AH}(g:Z.df=d)(h:n<=Z.nx)(j:Nat.ble Z.nx OLD=true)(c:∀i o,t.get i=some o->i<n∧Z.tr.get i=some o)(k:fH n t=true):Moves (λi=>i) n Z ⟨t,n,d⟩:=
 ⟨ah _,h,aF j,g.symm,λ_ _=>rfl,λi a b=>aP b (by show ¬i<n;omega),λ_ _ _ _ e=>e,λi o e _=>⟨(c i o e).1,by rw[AO.iO];exact(c i o e).2⟩,k⟩
theorem M8(t:Tr AV):wX (AV.ren λi=>i) t=t:=Gb AV.iO t
theorem AF.iO(f:AF):f.ren (λi=>i)=f:=by
 obtain⟨x,tm,td,ds,r⟩:=f;unfold AF.ren;simp only[M8]
theorem DoesS.aeA(A:DoesS P E f eH Y Z)(b:Z.df=0)(c:Nat.ble Z.nx OLD=true)(d:f.low 0)(a:Y.low 0):DoesS P E f eH Y eH:=
 DoesS.move (ρ:=λi=>i) A (Ab b (bT _) c (λi o e=>by rw[Tr.dN]at e;cases e) rfl) d rfl (λi o e=>by rw[show(eH.tr).get i=none from Tr.dN i]at e;cases e) (AF.iO Y).symm a
theorem pW:∀{i:Nat} {p:AO},(zL o:Tr AO).get i=some p->i=0∧p=o:=by
 intro i p e;have e:(Tr.n .e (some o) .e:Tr AO).get i=some p:=e;rw[Tr.jh]at e;split at e
 .rename_i h;cases e;exact⟨h,rfl⟩
 .split at e<;>(rw[Tr.dN]at e;cases e)
def mO(P:Program)(E:Env)(f:AF)(v:AV):Prop:=∃h,Does P E f eH v h∧h.nx<=OLD∧h.df=0
theorem mO.of{f':AF}(A:DoesS P E f eH f' eH)(B:mO P E f' v):mO P E f v:=by
 obtain⟨h,a,b⟩:=B;exact⟨h,Does.of A a,b⟩
theorem mO.it(A:Does P E f eH v Z)(a:Nat.ble Z.nx OLD=true)(b:Z.df=0):mO P E f v:=⟨Z,A,aF a,b⟩
theorem DoesC.ofV(FF:dM P E){args:List AV}(d:(iW E g args false).isSome=true)(A:mO P E (Ev.ent E g args) v)(j:AV.dX 0 args=true)(k:v.low 0=true):DoesC P E g args eH v eH:=by
 obtain⟨h,a,b,c⟩:=A;refine DoesC.move (ρ:=λi=>i) (by rw[AV.iO];exact DoesC.ent FF d a) (Ab c (bT _) ?_ (λi o e=>by rw[Tr.dN]at e;cases e) rfl) j rfl (λi o e=>by rw[show(eH.tr).get i=none from Tr.dN i]at e;cases e) k;exact aW b
def eG(P:Program)(E:Env)(f:AF)(o:AO)(v:AV)(o2:AO):Prop:=∃h,Does P E f ⟨zL o,1,0⟩ v h∧h.nx<=OLD∧h.df=0∧h.tr.get 0=some o2
theorem eG.of{f':AF}{o c o2:AO}(A:DoesS P E f ⟨zL o,1,0⟩ f' ⟨zL c,1,0⟩)(B:eG P E f' c v o2):eG P E f o v o2:=by
 obtain⟨h,a,b⟩:=B;exact⟨h,Does.of A a,b⟩
theorem eG.it{o2:AO}(A:Does P E f ⟨zL o,1,0⟩ v Z)(a:Nat.ble Z.nx OLD=true)(b:Z.df=0)(c:Z.tr.get 0=some o2):eG P E f o v o2:=⟨Z,A,aF a,b,c⟩
theorem DoesC.VW(FF:dM P E){g:FuncId}{args:List AV}{o o2:AO}(k:(iW E g args false).isSome=true)(A:eG P E (Ev.ent E g args) o v o2)(l:fH 1 (zL o)=true)(j:fH 1 (zL o2)=true)(m:AV.dX 1 args=true)(n:v.low 1=true):DoesC P E g args ⟨zL o,1,0⟩ v ⟨zL o2,1,0⟩:=by
 obtain⟨h,a,b,c,d⟩:=A;have q:1<=h.nx:=a.1;refine DoesC.move (ρ:=λi=>i) (by rw[AV.iO];exact DoesC.ent FF k a) (Ab c q (aW b) (λi p e=>by obtain⟨rfl,rfl⟩:=pW e;exact⟨jy,d⟩) j) m l (λi p e _=>by obtain⟨rfl,rfl⟩:=pW e;exact jy) n
end
end
section
variable{E:Env}{h h':AH}{id off:Nat}{t:TypeId}
theorem jf{E:Env}{t e:TypeId}{z:Nat}(b:E.d t=some (.slice e))(f:(E.tt.get e).map (·.size)=some z){id n:Nat}{c:Option Nat}{j:Int}{x:Nat}(hj:j=(↑x:Int))(h:x<n):
 aR E t (.sl id 0 n c) (zI j)=some (.ptr id (x*z)):=by
 subst hj;obtain⟨a,g,rfl⟩:=aN.1 f;unfold aR;rw[b];show(match E.tt.get e with |some a=>cond (decide (0<=(↑x:Int)∧(↑x:Int)<n)) (some (AV.ptr id (0+(↑x:Int).toNat*a.size))) none|none=>none)=_;rw[g];show cond (decide (0<=(↑x:Int)∧(↑x:Int)<n)) _ _=_;rw[aA ⟨by omega,by omega⟩,bN,gF];rfl
theorem jR{z:Nat}(a:(E.tt.get t).map (·.size)=some z){c:List AV}(b:c.length=z)(d:dD h id off c=some h'):fU E h t (zP id off) (.agg c)=some (.val gH h'):=by
 obtain⟨ti,e,rfl⟩:=aN.1 a;unfold fU;rw[e];show cond (AV.isAny (.agg c)) none (cond (Nat.beq c.length ti.size) ((dD h id off c).map λh'=>OR.val gH h') none)=_;rw[b,Nat.beq_refl,d];rfl
end
section
variable{E:Env}{P:Program}{f f':AF}{g:FuncId}{h h':AH}{v:AV}
structure Ob where
 ps:List Prop
 as:List Kk
noncomputable def obP(l:List Ob):List Prop:=l.flatMap (·.ps)
noncomputable def obA(l:List Ob):List Kk:=l.flatMap (·.as)
def Dt(l:List Ob):Prop:=All (obP l)
theorem All.cons{p:Prop}{l:List Prop}(h:p)(r:All l):All (p::l):=by
 cases l with
 |nil=>exact h
 |cons q l=>exact⟨h,r⟩
theorem All.append{l a:List Prop}(h:All l)(r:All a):All (l++a):=by
 induction l with
 |nil=>exact r
 |cons p l b=>cases l with
  |nil=>exact All.cons h r
  |cons q l=>exact All.cons h.1 (b h.2)
theorem Dt.cons{o:Ob}{l:List Ob}(h:All o.ps)(r:Dt l):Dt (o::l):=by
 show All ((o::l).flatMap (·.ps));rw[nO];exact h.append r
section
variable{l:List Ob}(n:Nat)
theorem Qe:Dt []:=trivial
theorem Qn:Dt [⟨[],[.n n]⟩]:=trivial
theorem Qb{b c:Bool}(o:b=c)(r:Dt l):Dt (⟨[some true=some true,some (AV.bool b)=some (AV.bool c)],[.n n,.v (.bool c)]⟩::l):=r.cons ⟨rfl,fZ (λz=>some (AV.bool z)) o⟩
theorem Qv{x:Option AV}(o:x=some v)(r:Dt l):Dt (⟨[some true=some true,x=some v],[.n n,.v v]⟩::l):=r.cons ⟨rfl,o⟩
theorem Qr(v:AV)(r:Dt l):Dt (⟨[some true=some true,some v=some v],[.n n,.v v]⟩::l):=r.cons ⟨rfl,rfl⟩
theorem Ql{x:Option OR}(o:x=some (.val v h))(r:Dt l):Dt (⟨[some true=some true,(none:Option AV)=none,x=some (.val v h)],[.n n,.l v h]⟩::l):=r.cons ⟨rfl,rfl,o⟩
theorem Qk{a:List AV}(o:DoesC P E g a h v h')(r:Dt l):Dt (⟨[DoesC P E g a h v h'],[.n n,.k v h']⟩::l):=r.cons o
theorem Qd(d:List DA)(r:Dt l):Dt (⟨[],[.n n,.d d]⟩::l):=r.cons trivial
theorem Qa(a:Kk)(r:Dt l):Dt (⟨[],[.n n,a]⟩::l):=r.cons trivial
theorem Qp{p:Prop}(o:p)(r:Dt l):Dt (⟨[p],[]⟩::l):=r.cons o
theorem Qq{p:Prop}(o:p)(r:Dt l):Dt (⟨[some true=some true,p],[]⟩::l):=r.cons ⟨rfl,o⟩
theorem Qz(r:Dt l):Dt (⟨[some true=some true,(none:Option AV)=none],[]⟩::l):=r.cons ⟨rfl,rfl⟩
theorem Qs(v:AV)(r:Dt l):Dt (⟨[some v=some v],[]⟩::l):=r.cons rfl
end
theorem jK(F:Fits P E)(FF:dM P E){l:List Ob}(keep:List Nat)(H:Dt l)
 (e:(match sj P E (obA l) f h with |some (a,h1,o)=>some (RJ keep a,h1,o)|none=>none)=some (f',h',obP l)):DoesS P E f h f' h':=KL F FF (obA l) keep e H
theorem prt(F:Fits P E)(FF:dM P E){l:List Ob}(H:Dt l)
 (e:(match sj P E (obA l) f h with |some (a,h1,o)=>(match iw E a h1 with |some (.ret v b)=>some (v,b,o)|_=>none)|none=>none)=some (v,h',obP l)):Does P E f h v h':=MJ F FF (obA l) e H
end
section
open Go.Conc (G)
variable{ds:List AD}{fr:Frame}{td:List AI}{u:Value}{us:List Value}{ι:Nm}
section
variable{P:Program}{E:Env}{Z:Old}{Q:Old->AV->Prop}
theorem Sat.ab4{K:Ctx}{ι:Nm}{h h':AH}{w:World}{id:Nat}{vs:List AV}{el:TypeId}{g z:Bool}(u:Of K P (E.wo Z))(S:Sat K ι h w)(C:h.tr.get id=some (.cells vs el g z))(n:∀a∈vs,AV.low 0 a=true)
 (k:∀i o,h'.tr.get i=some o->o.live->i≠id∧h.tr.get i=some o):
 ∃r old' p,ι id=some p∧Fz K r∧Of r P (E.wo old')∧Old.le Z old'∧(∀o a,vs[o]? =some a->old' p.1 o=some a)∧Sat r ι h' w:=by
 have l:K.peek:=u.pk rfl;have D:=S.jU l;obtain⟨p,ob,e1,e2,L,F,M⟩:=S.objs id _ C trivial;obtain⟨c,lo,hi,rfl,⟨l1,l2,N,O⟩,_⟩:=M;have v:p.1<w.heap.size:=lt_of_heap F;let old':Old:=λb o=>if b=p.1 then vs[o]? else Z b o;let r:Ctx:={ P:=K.P,W0:=w,fz:=λb=>K.fz b∨b=p.1,lo:=w.heap.size,own:=λb=>K.own b∧b≠p.1,lN:=λb d=>⟨K.lN b (aQ S.lo d),by omega⟩,peek:=K.peek };have s:Old.le Z old':=by
  intro b o a e;show(if b=p.1 then vs[o]? else Z b o)=some a;by_cases d:b=p.1
  .exfalso
   have:=(u.mem b o a e).2.1;rw[d]at this;exact e2 this
  .rw[au d];exact e
 refine⟨r,old',p,e1,⟨rfl,λb d=> .inl d,λb d=>d.1,λb d=>d.imp (λd=>d) (λd=>by rw[d];exact L),λb d=>S.old b d,S.os,S.tape,S.output,λhp=>hp⟩,⟨u.P,λb o a e=>?_,λ_=>l⟩,s,λo a e=>by show(if p.1=p.1 then vs[o]? else Z p.1 o)=some a;rw[aH rfl];exact e,?_⟩
 .have e:(if b=p.1 then vs[o]? else Z b o)=some a:=e
  by_cases d:b=p.1
  .rw[aH d]at e
   obtain⟨x,f,m⟩:=O.get e;refine⟨l,.inr d,x,?_,RV.xO D (n a (bE e)) m⟩;show w.cell? ⟨b,o,none⟩=some x;rw[d,cell_of F,← bq,N,aU]
   .exact f
   .rw[aJ]at f;exact f.1
  .rw[au d]at e
   obtain⟨_,G,x,f,m⟩:=u.mem b o a e;refine⟨l,.inl G,x,?_,m⟩;show w.cell? ⟨b,o,none⟩=some x;unfold World.cell? at f ⊢;rw[S.old b G];exact f
 .refine⟨λi o e y=>?_,λi j o H p q e1 e2 l1 l2 hp R A=>S.inj i j o H p q (k i o e1 l1).2 (k j H e2 l2).2 l1 l2 hp R A,ah _,λb d=>d.elim (S.bs b) (λd=>by rw[d];exact v),λ_ _=>rfl,rfl,rfl,rfl,λ_=>D⟩
  obtain⟨T,I⟩:=k i o e y;obtain⟨q,ob,J,U,V,W,X⟩:=S.objs i o I y;have t:q.1≠p.1:=λB=>T (S.inj i id _ _ q p I C y trivial J e1 B);exact⟨q,ob,J,λB=>B.elim U t,⟨V,t⟩,W,X⟩
theorem RF.slot{x:AX}{tm:Tr AV}{r:Bool}{k:Nat}{a c:AV}(R:RF ι ⟨x,tm,td,ds,r⟩ fr)(d:tm.get k=some a)(h:∀u,RV ι a u->RV ι c u):RF ι ⟨x,tm.set k c,td,ds,r⟩ fr:=by
 refine⟨R.fn,⟨R.tm.1,λt b e=>?_⟩,R.todo,R.ds,R.mode,R.kind,R.round⟩;rcases Tr.pU e with⟨rfl,rfl⟩|⟨h1,f⟩
 .exact h _ (R.tm.2 _ _ d)
 .exact R.tm.2 t b f
theorem bO.Zj{x:AX}{tm:Tr AV}{td:List AI}{ds:List AD}{r:Bool}{k id off n:Nat}{cap:Option Nat}{vs:List AV}{el:TypeId}{g z:Bool}{h h':AH}(D:h.tr.get id=some (.cells vs el g z))(j:∀a∈vs,AV.low 0 a=true)
 (F:tm.get k=some (.sl id off n cap))(l:∀i o,h'.tr.get i=some o->o.live->i≠id∧h.tr.get i=some o)(s:h'.nx=h.nx)(u:h'.df=h.df)
 (B:∀(old':Old) (b c:Nat),Old.le Z old'->n<=c->(∀o a,vs[o]? =some a->old' b o=some a)->bO P E old' ⟨x,tm.set k (.aO (some (b,off)) n c),td,ds,r⟩ h' Q):
 bO P E Z ⟨x,tm,td,ds,r⟩ h Q:=λK ι w fr cc m G S R I v=>by
 obtain⟨J,old',p,e1,C,y,q,A,L⟩:=Sat.ab4 G S D j l;have M:=R.tm.2 k _ F;obtain⟨U,h1,d,e,f,_⟩:=kK M;rw[e1]at h1;cases h1;have R1:RF ι ⟨x,tm.set k (.aO (some (p.1,off)) n d),td,ds,r⟩ fr:=by
  refine⟨R.fn,⟨R.tm.1,λt b N=>?_⟩,R.todo,R.ds,R.mode,R.kind,R.round⟩;rcases Tr.pU N with⟨rfl,rfl⟩|⟨h1,O⟩
  .rw[e];unfold RV;exact⟨none,rfl,f,λT=>(by cases T),λ_=>rfl⟩
  .exact R.tm.2 t b O
 have W:=(B old' p.1 d q f A J ι w fr cc m y L R1 (by rw[s];exact I) v).fz C;rw[u]at W;exact W.mono λ_ _ _ H=>AtR.up C q H
theorem bO.Zk{x:AX}{tm:Tr AV}{td:List AI}{ds:List AD}{r:Bool}{k id off:Nat}{vs:List AV}{el:TypeId}{g z:Bool}{h h':AH}(C:h.tr.get id=some (.cells vs el g z))(c:∀a∈vs,AV.low 0 a=true)
 (D:tm.get k=some (.ptr id off))(d:∀i o,h'.tr.get i=some o->o.live->i≠id∧h.tr.get i=some o)(j:h'.nx=h.nx)(l:h'.df=h.df)
 (B:∀(old':Old) (b:Nat),Old.le Z old'->(∀o a,vs[o]? =some a->old' b o=some a)->bO P E old' ⟨x,tm.set k (.ptr (OLD+b) off),td,ds,r⟩ h' Q):
 bO P E Z ⟨x,tm,td,ds,r⟩ h Q:=λK ι w fr cc e t S R F m=>by
 obtain⟨G,old',p,e1,v,n,f,s,I⟩:=Sat.ab4 t S C c d;have J:=S.jU (t.pk rfl);have R1:RF ι ⟨x,tm.set k (.ptr (OLD+p.1) off),td,ds,r⟩ fr:=R.slot D λu y=>by
  unfold RV at y ⊢;obtain⟨q,A,rfl⟩:=y;rw[e1]at A;cases A;exact⟨_,J _ _ (wU _),rfl⟩
 have W:=(B old' p.1 f s G ι w fr cc e n I R1 (by rw[j];exact F) m).fz v;rw[l]at W;exact W.mono λ_ _ _ H=>AtR.up v f H
theorem RO.Bp{P:Program}{ι:Nm}{cap:Nat}{ws a:List AV}{el:TypeId}{g z:Bool}{ob:Obj}(h:RO P ι cap (.cells ws el g z) ob)(d:a.length=ws.length)(e:∀b,dJ ι ws b->dJ ι a b):RO P ι cap (.cells a el g z) ob:=by
 obtain⟨c,lo,hi,rfl,⟨l1,l2,f,h1⟩,i,j,k⟩:=h;exact⟨c,lo,hi,rfl,⟨l1,l2,f,e _ h1⟩,λl=>by rw[d];exact i l,j,k⟩
theorem bO.BD{f:AF}{id off n i j:Nat}{cap:Option Nat}{vs ws:List AV}{el A:TypeId}{g z G N:Bool}{h:AH}{h':Nat->Nat->AH}(ho:h.tr.get id=some (.cells vs el g z))(I:∀a∈vs,AV.low 0 a=true)(hi:h.tr.get i=some (.cells ws A G N))(O:i≠id)
 (hj:ws[j]? =some (.sl id off n cap))(s:∀b c k o,(h' b c).tr.get k=some o->o.live->k≠id∧(k=i->o= .cells (ws.set j (.aO (some (b,off)) n c)) A G N)∧(k≠i->h.tr.get k=some o))
 (T:∀b c,(h' b c).nx=h.nx)(U:∀b c,(h' b c).df=h.df)
 (B:∀(old':Old) (b c:Nat),Old.le Z old'->n<=c->(∀o a,vs[o]? =some a->old' b o=some a)->bO P E old' f (h' b c) Q):
 bO P E Z f h Q:=λK ι w fr cc J hP S R hf V=>by
 obtain⟨K',old',p,e1,z1,X,L,Y,m⟩:=Sat.ab4 (h':=h.put id .dead) hP S ho I (λk o e C=>by
  obtain⟨tr,nx,df⟩:=h;have e:(tr.set id .dead).get k=some o:=e;rcases Tr.pU e with⟨rfl,rfl⟩|⟨h1,h2⟩
  .exact C.elim
  .exact⟨h1,h2⟩)
 have D:(h.put id .dead).tr.get i=some (.cells ws A G N):=by
  obtain⟨tr,nx,df⟩:=h;show(tr.set id .dead).get i=_;rw[Tr.Bz _ _ O];exact hi
 obtain⟨q,ob,f1,f2,f3,f4,f5⟩:=m.objs i _ D trivial;have f6:=f5;obtain⟨c0,lo,hi0,hob,⟨l1,l2,hc,hv⟩,_⟩:=f6;obtain⟨u,hu1,hu2⟩:=hv.get hj;obtain⟨p',h1,d,e,t,_⟩:=kK hu2;rw[e1]at h1;cases h1;have F:RV ι (.aO (some (p.1,off)) n d) u:=by
  rw[e];unfold RV;exact⟨none,rfl,t,λy=>(by cases y),λ_=>rfl⟩
 have S2:Sat K' ι (h' p.1 d) w:=by
  refine⟨λk o ek C=>?_,λa b o o' p1 p2 ea eb la lb hp1 hp2 hpq=>?_,m.lo,m.bs,m.old,m.os,m.tape,m.output,m.jU⟩
  .obtain⟨n1,n2,n3⟩:=s _ _ k o ek C
   by_cases l:k=i
   .subst l
    rw[n2 rfl];refine⟨q,ob,f1,f2,f3,f4,?_⟩;rw[hob]at f5 ⊢;obtain⟨c',lo',D,M,⟨m1,m2,mc,mv⟩,b1,b2,b3⟩:=f5;cases M;refine⟨c0,lo,hi0,rfl,⟨l1,l2,hc,?_⟩,λhg=>by rw[lg];exact b1 hg,b2,b3⟩;refine dJ.yT (by rw[lg];exact hv.length) λx a v y r=>?_;rw[List.getElem?_set]at y;split at y
    .rename_i hjx
     subst hjx;split at y
     .cases y
      rw[hu1]at r;cases r;exact F
     .cases y
    .obtain⟨v2,e2,r2⟩:=hv.get y
     rw[e2]at r;cases r;exact r2
   .have hk:=n3 l
    have hk':(h.put id .dead).tr.get k=some o:=by
     obtain⟨tr,nx,df⟩:=h;show(tr.set id .dead).get k=_;rw[Tr.Bz _ _ n1];exact hk
    exact m.objs k o hk' C
  .have get:∀k o,(h' p.1 d).tr.get k=some o->o.live->∃o2,(h.put id .dead).tr.get k=some o2∧o2.live:=λk o ek C=>by
    obtain⟨n1,n2,n3⟩:=s _ _ k o ek C;by_cases l:k=i
    .subst l;exact⟨_,D,trivial⟩
    .refine⟨o,?_,C⟩
     have hk:=n3 l;obtain⟨tr,nx,df⟩:=h;show(tr.set id .dead).get k=_;rw[Tr.Bz _ _ n1];exact hk
   obtain⟨o2,g1,G⟩:=get a o ea la;obtain⟨o3,g3,g4⟩:=get b o' eb lb;exact m.inj a b o2 o3 p1 p2 g1 g3 G g4 hp1 hp2 hpq
 have W:=(B old' p.1 d L t Y K' ι w fr cc J X S2 R (by rw[T];exact hf) V).fz z1;rw[U]at W;exact W.mono λ_ _ _ H=>AtR.up z1 L H
theorem bO.Bp{f:AF}{id:Nat}{vs vs':List AV}{el:TypeId}{g z:Bool}{h h':AH}(hi:h.tr.get id=some (.cells vs el g z))(x:vs'.length=vs.length)(y:∀ι u,dJ ι vs u->dJ ι vs' u)
 (e:∀k o,h'.tr.get k=some o->o.live->(k=id->o= .cells vs' el g z)∧(k≠id->h.tr.get k=some o))(j:h'.nx=h.nx)(l:h'.df=h.df)(B:bO P E Z f h' Q):bO P E Z f h Q:=λK ι w fr cc i A S R C m=>by
 have D:Sat K ι h' w:=by
  refine⟨λk o n c=>?_,λa b o F G H I eb J L p r s=>?_,S.lo,S.bs,S.old,S.os,S.tape,S.output,S.jU⟩
  .obtain⟨v,t⟩:=e k o n c
   by_cases d:k=id
   .subst d
    rw[v rfl];obtain⟨q,ob,M,N,O,T,U⟩:=S.objs k _ hi trivial;exact⟨q,ob,M,N,O,T,U.Bp x (y ι)⟩
   .exact S.objs k o (t d) c
  .have get:∀k o,h'.tr.get k=some o->o.live->∃o2,h.tr.get k=some o2∧o2.live:=λk o n c=>by
    obtain⟨v,t⟩:=e k o n c;by_cases d:k=id
    .subst d;exact⟨_,hi,trivial⟩
    .exact⟨o,t d,c⟩
   obtain⟨o2,V,X⟩:=get a o I J;obtain⟨Y,g3,g4⟩:=get b F eb L;exact S.inj a b o2 Y G H V g3 X g4 p r s
 have W:=B K ι w fr cc i A D R (by rw[j];exact C) m;rw[l]at W;exact W
def FD:AV->AV| .aM=> .aO none 0 0|v=>v
theorem Ru{a:AV}(h:RV ι a u):RV ι (FD a) u:=by
 cases a<;>first|exact h|(unfold RV at h;show RV ι (.aO none 0 0) u;unfold RV;exact⟨none,h,ah _,λ_=>⟨rfl,rfl⟩,λ_=>rfl⟩)
theorem M0{l:List AV}(h:dJ ι l us):dJ ι (l.map FD) us:=
 dJ.yT (by rw[bH];exact h.length) λi a v c e=>by
  rw[eu]at c;cases d:l[i]? with
  |none=>rw[d]at c;cases c
  |some b=>
   rw[d]at c;cases c;obtain⟨u,e1,e2⟩:=h.get d;rw[e1]at e;cases e;exact Ru e2
theorem bO.low{f:AF}{h:AH}{n:Nat}(g:n<=h.nx)(a:f.low n)(b:fH n h.tr=true)(c:∀i o,h.tr.get i=some o->o.live->i<n)(B:bO P E Z f ⟨h.tr,n,h.df⟩ Q):bO P E Z f h Q:=
 bO.ren (ρ:=λi=>i) B rfl (AF.iO f).symm a b (λi j _ _ e=>e) (λi o e d=>⟨c i o e d,by rw[AO.iO];exact e⟩) (λi _=>rfl)
end
end
section
open Go.Conc (G)
variable{E:Env}{P:Program}{args:List AV}{g:FuncId}{h h2:AH}{n:Nat}{o:AO}{v v':AV}
theorem aT(h:Nat.ble n OLD=true):n<=OLD:=aF h
def yG(k:Nat)(i:Nat):Nat:=cond (Nat.beq i 0) k i
def O1(k:Nat):Nat->Nat:=λi=>bif Nat.ble OLD i then i else i+k
theorem TQ{k:Nat}(b:k<h2.nx)(top:Nat.ble h2.nx OLD=true)(a:h2.df=0)(c:h2.tr.get k=some o)(hr:o.ren (yG k)=o)(d:fH 1 (zL o)=true):Moves (yG k) 0 h2 ⟨zL o,1,0⟩:=by
 refine⟨bT _,by show 1<=h2.nx;omega,aF top,a.symm,λi hi=>?_,λi _ hi=>?_,λi j hi hj _=>?_,λi q e _=>?_,d⟩
 .have hi:OLD<=i:=by omega
  cases i with
  |zero=>exact aP hi (by decide)
  |succ i=>rfl
 .have hi:i<1:=hi
  obtain rfl:i=0:=by omega
  exact⟨bT _,b⟩
 .have hi:i<1:=hi
  have hj:j<1:=hj;omega
 .obtain⟨rfl,rfl⟩:=pW e
  exact⟨jy,by rw[hr];exact c⟩
theorem DoesC.sel{P:Program}{E:Env}{g:FuncId}{args:List AV}{k:Nat}{o:AO}{v:AV}{a:AH}(C:DoesC P E g args eH (v.ren (yG k)) a)(c:Nat.blt k a.nx=true)(top:Nat.ble a.nx OLD=true)(b:a.df=0)(d:a.tr.get k=some o)(hr:o.ren (yG k)=o)(f:fH 1 (zL o)=true)(h:AV.dX 0 args=true)(j:v.low 1=true):DoesC P E g args eH v ⟨zL o,1,0⟩:=
 DoesC.move C (TQ (by rw[← cO];exact c) top b d hr f) h rfl (λi o e _=>by rw[show(eH.tr).get i=none from Tr.dN i]at e;cases e) j
theorem DoesC.Wz(C:DoesC P E g args eH v ⟨zL o,1,0⟩)(d:AV.dX 0 args=true)(hr:AV.jC (O1 h.nx) args=args)(f:o.ren (O1 h.nx)=o)(a:h.df=0)(b:Nat.blt h.nx OLD=true)(k:∀i q,h.tr.get i=some q->q.live->i<h.nx)(l:v.ren (O1 h.nx)=v'):
 DoesC P E g args h v' (h.new o):=by
 have c:∀(i:Nat) (q:AO),(eH.tr).get i=some q->False:=λi q e=>by rw[show(eH.tr).get i=none from Tr.dN i]at e;cases e
 have b:h.nx<OLD:=by rw[← cO];exact b
 subst l;obtain⟨tr,nx,df⟩:=h;have a:df=0:=a;subst a;have u0:O1 nx 0=nx:=by unfold O1;rw[show Nat.ble OLD 0=false from rfl];exact gF _
 have L:QE (O1 nx) eH ⟨zL o,1,0⟩ ⟨tr,nx,0⟩ (AH.new ⟨tr,nx,0⟩ o):=by
  refine⟨bT _,aF (by rfl),b,λi j h1 m _=>by have:i<1:=h1;have:j<1:=m;omega,λi hi=>aP hi (iq _),λi _ hi=>?_,λi hi=>by unfold O1;rw[aW hi];rfl,Nat.le_succ _,λi q e _=>(c i q e).elim,λi q e _=>?_,λi q e _=>(c i q e).elim,λi q e n=>?_,rfl,rfl,rfl⟩
  .have hi:i<1:=hi
   obtain rfl:i=0:=by omega
   rw[u0];exact⟨ah _,cB _⟩
  .obtain⟨rfl,_⟩:=pW e;exact jy
  .have e:(tr.set nx o).get i=some q:=e
   rw[Tr.BA]at e;split at e
   .rename_i hi
    cases e;exact .inl ⟨0,o,rfl,by rw[u0];exact hi,f.symm⟩
   .exact .inr ⟨e,λj q e=>(c j q e).elim⟩
 have:=DoesC.frame C L d;rw[hr]at this;exact this
theorem wZ{E:Env}{h:AH}{t e:TypeId}{z:List AV}{n:Nat}(c:E.d t=some (.slice e))(f:(E.tt.get e).map (λi=>(i.zero,Nat.ble i.bytes 4096))=some (z,true))(l:n<=1048576):
 eF E h t (zI n) (zI n)=some (.val (.sl h.nx 0 n (some n)) (h.new (.cells (rep n z) e false false))):=by
 obtain⟨a,g,b⟩:=aN.1 f;have j:a.zero=z:=(iH b).1;have k:Nat.ble a.bytes 4096=true:=(iH b).2;unfold eF;rw[c];show(match E.tt.get e with |some a=>cond (decide (0<=(↑n:Int)∧(↑n:Int)<=(↑n:Int)∧(↑n:Int)<=1048576)&&Nat.ble a.bytes 4096) (some (OR.val (.sl h.nx 0 (↑n:Int).toNat (some (↑n:Int).toNat)) (h.new (.cells (rep (↑n:Int).toNat a.zero) e false false)))) none|none=>none)=_;rw[g];show cond (decide (0<=(↑n:Int)∧(↑n:Int)<=(↑n:Int)∧(↑n:Int)<=1048576)&&Nat.ble a.bytes 4096) _ none=_;rw[aA (by omega),k,bN,j];rfl
end
section
variable{E:Env}{el t:TypeId}
theorem Tf(c p r:List AV):takeN (p++(c++r)) p.length c.length=some c:=by
 unfold takeN;have e:((p++(c++r)).drop p.length).take c.length=c:=by simp
 show cond (Nat.beq (((p++(c++r)).drop p.length).take c.length).length c.length) (some (((p++(c++r)).drop p.length).take c.length)) none=_;rw[e,Nat.beq_refl];rfl
theorem rD:∀(c a p r:List AV),a.length=c.length->setAt (p++(c++r)) p.length a=p++(a++r)
 |[],[],p,r,_=>rfl
 |v::c,b::a,p,r,h=>by
  have d:=rD c a (p++[b]) r (by simpa using h);show setAt ((p++(v::c++r)).set p.length b) (p.length+1) a=_;rw[show(p++(v::c++r)).set p.length b=(p++[b])++(c++r)by simp[iJ],show p.length+1=(p++[b]).length by simp,d];simp
section
variable{Z:Type}{enc:Z->List AV}{z:Nat}
theorem vQ(b:∀a,(enc a).length=z):∀l:List Z,(l.flatMap enc).length=l.length*z
 |[]=>by simp
 |a::l=>by rw[nO,fF,b,vQ b l,gI,kF,Nat.one_mul,Nat.add_comm]
theorem JR{l:List Z}{x:Nat}{a:Z}(h:l[x]? =some a):l=l.take x++a::l.drop (x+1)∧(l.take x).length=x:=by
 have b:x<l.length:=by
  rcases aZ x l.length with h1|h1
  .exact h1
  .rw[gK h1]at h;cases h
 rw[aK b]at h;cases h;exact⟨by simp,by simp;omega⟩
theorem Tg(b:∀a,(enc a).length=z){l:List Z}{x:Nat}{a:Z}(h:l[x]? =some a):takeN (l.flatMap enc) (x*z) z=some (enc a):=by
 obtain⟨h1,c⟩:=JR h;rw[h1,List.flatMap_append,nO];have:=Tf (enc a) ((l.take x).flatMap enc) ((l.drop (x+1)).flatMap enc);rw[vQ b,c,b]at this;exact this
theorem Tw(c:∀a,(enc a).length=z){l:List Z}{x:Nat}(b:Z)(h:x<l.length):setAt (l.flatMap enc) (x*z) (enc b)=(l.set x b).flatMap enc:=by
 obtain⟨h1,d⟩:=JR (aK h);have e:l.set x b=l.take x++b::l.drop (x+1):=by rw[List.set_eq_take_append_cons_drop,aH h]
 rw[e];have f:l.flatMap enc=(l.take x).flatMap enc++(enc l[x]++(l.drop (x+1)).flatMap enc):=by
  conv=>lhs;rw[h1]
  rw[List.flatMap_append,nO]
 rw[f,List.flatMap_append,nO];have:=rD (enc l[x]) (enc b) ((l.take x).flatMap enc) ((l.drop (x+1)).flatMap enc) (by rw[c,c]);rw[vQ c,d]at this;exact this
theorem Nl(b:(E.tt.get t).map (·.isAgg)=some true)(d:(E.tt.get t).map (·.size)=some z)(e:∀a,(enc a).length=z){l:List Z}{x:Nat}{a:Z}(h:l[x]? =some a){g y:Bool}(hp:AH)(f:hp.obj 0= .cells (l.flatMap enc) el g y):loadT E hp t 0 (x*z)=some (.agg (enc a)):=by
 obtain⟨ti,c,rfl⟩:=aN.1 d;rw[c]at b;have b:ti.isAgg=true:=by simpa using b
 unfold loadT;rw[c];show cond ti.isAgg ((jw E hp 0 (x*ti.size) ti.size).map AV.agg) _=_;rw[b];show(jw E hp 0 (x*ti.size) ti.size).map AV.agg=_;unfold jw;rw[show Nat.ble OLD 0=false from rfl];show Option.map AV.agg (match hp.obj 0 with | .cells vs _ _ _=>takeN vs (x*ti.size) ti.size|_=>none)=_;rw[f];show Option.map AV.agg (takeN (l.flatMap enc) (x*ti.size) ti.size)=_;rw[Tg e h];rfl
theorem Bj(c:∀a,(enc a).length=z){l:List Z}{x:Nat}(b:Z)(h:x<l.length)(d:lu (enc b)=true){el:TypeId}{g:Bool}:dD ⟨(zL (.cells (l.flatMap enc) el g false)),1,0⟩ 0 (x*z) (enc b)=some ⟨(zL (.cells ((l.set x b).flatMap enc) el g false)),1,0⟩:=by
 show(cond (Nat.ble (x*z+(enc b).length) (l.flatMap enc).length&&lu (enc b)) (some ((⟨(zL (.cells (l.flatMap enc) el g false)),1,0⟩:AH).put 0 (.cells (setAt (l.flatMap enc) (x*z) (enc b)) el g false))) none:Option AH)=_;rw[d,c,vQ c,Tw c b h,aW (by have:=Nat.mul_le_mul_right z (show x+1<=l.length from h);rw[kF,Nat.one_mul]at this;omega)];rfl
end
structure X5(E:Env)(t:TypeId)(z:Nat)(cs:List AV)(x y:Nat)(cx cy cs1 cs2:List AV):Prop where
 lx:cx.length=z
 ly:cy.length=z
 S:dD ⟨(zL (.cells cs t true false)),1,0⟩ 0 (x*z) cy=some ⟨(zL (.cells cs1 t true false)),1,0⟩
 T:dD ⟨(zL (.cells cs1 t true false)),1,0⟩ 0 (y*z) cx=some ⟨(zL (.cells cs2 t true false)),1,0⟩
 L:∀h,h.obj 0= .cells cs t true false->loadT E h t 0 (x*z)=some (.agg cx)
 M:∀h,h.obj 0= .cells cs t true false->loadT E h t 0 (y*z)=some (.agg cy)
section
variable{Z:Type}{enc:Z->List AV}{z:Nat}
theorem aaX(g:(E.tt.get t).map (·.isAgg)=some true)(i:(E.tt.get t).map (·.size)=some z)(c:∀a,(enc a).length=z)(j:∀a,lu (enc a)=true){l:List Z}{x y:Nat}{a b:Z}(d:l[x]? =some a)(e:l[y]? =some b):X5 E t z (l.flatMap enc) x y (enc a) (enc b) ((l.set x b).flatMap enc) (((l.set x b).set y a).flatMap enc):=by
 have k:x<l.length:=by
  rcases aZ x l.length with h1|h1
  .exact h1
  .rw[gK h1]at d;cases d
 have m:y<l.length:=by
  rcases aZ y l.length with h1|h1
  .exact h1
  .rw[gK h1]at e;cases e
 exact⟨c a,c b,Bj c b k (j b),Bj c a (by simpa using m) (j a),λh f=>Nl g i c d h f,λh f=>Nl g i c e h f⟩
end
end
section
variable{E:Env}{t e:TypeId}{z:Nat}
theorem GA(b:E.d t=some (.slice e))(c:(E.tt.get e).map (·.size)=some z){id n:Nat}{k:Int}{x:Nat}(f:k=(↑x:Int))(h0:0<x)(g:x<n):iN E t (.sl id 0 n none) (some (zI k)) none none=some (.sl id (x*z) (n - x) none):=by
 subst f;obtain⟨a,h,rfl⟩:=aN.1 c;unfold iN;rw[b];show(match E.tt.get e,(none:Option AV)with
  |some a,none=>vY id 0 a.size n (some (zI ↑x)) none
  |some a,some v=>match kW 0 n v with
   |some m=>pX id 0 a.size n m (some (zI ↑x)) none true
   |none=>none
  |_,_=>none)=_
 rw[h];show(match BK (some (zI (↑x:Int))) n 0 with
  |none=>none
  |some l=>cond (Nat.beq l 0) (some (AV.sl id 0 n none)) (cond (Nat.blt l n) (some (.sl id (0+l*a.size) (n - l) none)) (some .emp)))=_
 have i:BK (some (zI (↑x:Int))) n 0=some x:=by
  show cond (decide ((0:Nat)<=(↑x:Int)∧(↑x:Int)<=n)) (some (↑x:Int).toNat) none=_;rw[aA ⟨by omega,by omega⟩,bN];rfl
 rw[i];show cond (Nat.beq x 0) _ (cond (Nat.blt x n) _ _)=_;rw[show Nat.beq x 0=false by cases x with |zero=>omega|succ x=>rfl,show Nat.blt x n=true from aW g,gF];rfl
theorem Gz(b:E.d t=some (.slice e))(c:(E.tt.get e).map (·.size)=some z){id n:Nat}{k:Int}{x:Nat}(f:k=(↑x:Int))(i:x<=n):iN E t (.sl id 0 n none) none (some (zI k)) none=some (.sl id 0 x none):=by
 subst f;obtain⟨a,g,rfl⟩:=aN.1 c;unfold iN;rw[b];show(match E.tt.get e,(none:Option AV)with
  |some a,none=>vY id 0 a.size n none (some (zI ↑x))
  |some a,some v=>match kW 0 n v with
   |some m=>pX id 0 a.size n m none (some (zI ↑x)) true
   |none=>none
  |_,_=>none)=_
 rw[g];have h:Uh (some (zI (↑x:Int))) n n false=some x:=by
  show cond (decide ((0:Nat)<=(↑x:Int)∧(↑x:Int)<=n)) (some (↑x:Int).toNat) none=_;rw[aA ⟨by omega,by omega⟩,bN];rfl
 show vY id 0 a.size n none (some (zI ↑x))=_;unfold vY;rw[h];rfl
theorem Cz(b:E.d t=some (.slice e))(f:(E.tt.get e).map (·.size)=some z){id y n:Nat}{c:Option Nat}{j:Int}{x:Nat}(hj:(↑y:Int)+j=(↑x:Int))(i:y<=x)(k:x - y<n):
 aR E t (.sl id (y*z) n c) (zI j)=some (.ptr id (x*z)):=by
 obtain rfl:j=((x - y:Nat):Int):=by omega
 obtain⟨g,h,rfl⟩:=aN.1 f;unfold aR;rw[b];show(match E.tt.get e with |some a=>cond (decide (0<=((x - y:Nat):Int)∧((x - y:Nat):Int)<n)) (some (AV.ptr id (y*g.size+((x - y:Nat):Int).toNat*a.size))) none|none=>none)=_;rw[h];show cond (decide (0<=((x - y:Nat):Int)∧((x - y:Nat):Int)<n)) _ _=_;rw[aA ⟨by omega,by omega⟩,bN,← kF,show y+(x - y)=x by omega];rfl
theorem Uu{zs:List AV}(b:E.d t=some (.slice e))(f:(E.tt.get e).map (·.zero)=some zs){h h':AH}{id off m:Nat}{c:Option Nat}(j:0<m)(g:dD h id off (rep m zs)=some h'):
 jv E h .clear [.sl id off m c] [t]=some (.val (.bV []) h'):=by
 obtain⟨a,i,rfl⟩:=aN.1 f;show xZ E h t (.sl id off m c)=_;unfold xZ;rw[b];show(match E.tt.get e with
  |some a=>cond (Nat.beq m 0) none ((dD h id off (rep m a.zero)).map λh'=>OR.val (.bV []) h')
  |none=>none)=_
 rw[i];show cond (Nat.beq m 0) none ((dD h id off (rep m a.zero)).map λh'=>OR.val (.bV []) h')=_;rw[g,show Nat.beq m 0=false by cases m with |zero=>omega|succ m=>rfl];rfl
end
section
open Go.Conc (G)
variable{fr:Frame}{ι ι0:Nm}{ρ:Nat->Nat}
theorem RF.Kn{n:Nat}{ρ:Nat->Nat}{ι c:Nm}(H:zK n ρ ι c){f:AF}{fr:Frame}(b:f.low n)(R:RF ι (f.ren ρ) fr):RF c f fr:=by
 refine⟨R.fn,⟨R.tm.1,λt a d=>RV.iX H (uj b.tm d) (R.tm.2 t (a.ren ρ) (by show(wX (AV.ren ρ) f.tm).get t=_;rw[pq,d];rfl))⟩,rF b.todo R.todo,?_,R.mode,R.kind,?_⟩
 .have:=R.ds
  rw[show(f.ren ρ).ds=f.ds from rfl,b.ds]at this;rw[b.ds];exact this
 .have:=R.round
  rw[show(f.ren ρ).x=f.x from rfl,b.round]at this;rw[b.round];exact this
structure AF.plain(f:AF):Prop where
 todo:yR f.todo=true
 ds:f.ds=[]
 round:f.x.round=none
theorem RF.aa5(H:QA ρ ι0 ι){f:AF}(a:f.plain)(R:RF ι0 f fr):RF ι (f.ren ρ) fr:=by
 refine⟨R.fn,RT.ren H R.tm,rF a.todo R.todo,?_,R.mode,R.kind,?_⟩
 .have:=R.ds
  rw[a.ds]at this;rw[show(f.ren ρ).ds=f.ds from rfl,a.ds];exact this
 .have:=R.round
  rw[a.round]at this;rw[show(f.ren ρ).x=f.x from rfl,a.round];exact this
theorem DoesS.frame{P:Program}{E:Env}{f f':AF}{h0 d:AH}(C:DoesS P E f h0 f' d){ρ:Nat->Nat}{h h':AH}(L:QE ρ h0 d h h')(l:f.low h0.nx)(I:f'.plain):
 DoesS P E (f.ren ρ) h (f'.ren ρ) h':=by
 have hx':(f'.ren ρ).x=(f.ren ρ).x:=C.2.1;refine⟨L.le,hx',λK ι w fr cs hP S R hf=>?_⟩;let m:Nm:=λi=>if i<h0.nx∨OLD<=i then ι (ρ i)else none;have c:∀i,(i<h0.nx∨OLD<=i)->m i=ι (ρ i):=λi hi=>aH hi;have n:∀i,¬(i<h0.nx∨OLD<=i)->m i=none:=λi hi=>au hi;have H:zK h0.nx ρ ι m:=λi p hi hp=>by rw[c i hi];exact hp
 have hUp:QA ρ m ι:=λi p hi=>by
  by_cases D:i<h0.nx∨OLD<=i
  .rw[c i D]at hi;exact hi
  .rw[n i D]at hi;cases hi
 have SM:sS K ι (λi o=>h.tr.get i=some o) w:=S.toM λ_ _ h _=>h;let X:Nat->Prop:=λi=>¬∃j r,h0.tr.get j=some r∧r.live∧i=ρ j;let J:=Ctx.less K ι (λi o=>h.tr.get i=some o) X w SM.lo SM.lt;have Z:Sub J K:=sG;have S0:Sat J m h0 w:=by
  refine⟨λi o hi l=>?_,λi j o F p q e1 e2 l1 l2 hp u t=>?_,ah _,S.bs,S.old,S.os,S.tape,S.output,λhk i p hi=>?_⟩
  .have hlt:=L.names i o hi l
   obtain⟨p,ob,e1,e2,A,B,G⟩:=S.objs (ρ i) (o.ren ρ) (L.before i o hi l) (AO.dS.2 l);refine⟨p,ob,by rw[c i (.inl hlt)];exact e1,e2,⟨A,λ⟨j,F,q,hx,hm,I,u,hqp⟩=>?_⟩,B,RO.iX H (nX L.TU hi) G⟩;have:ρ i=j:=S.inj (ρ i) j _ F p q (L.before i o hi l) hm (AO.dS.2 l) I e1 u hqp.symm;exact hx ⟨i,o,hi,l,this.symm⟩
  .have h1:=L.names i o e1 l1
   have g:=L.names j F e2 l2;rw[c i (.inl h1)]at hp;rw[c j (.inl g)]at u;have:=S.inj (ρ i) (ρ j) _ _ p q (L.before i o e1 l1) (L.before j F e2 l2) (AO.dS.2 l1) (AO.dS.2 l2) hp u t;exact L.inj i j (by have:=L.le0;omega) (by have:=L.le0;omega) this
  .have hi':OLD<=i:=by
    unfold dI at hi;rcases aZ i OLD with h1|h1
    .rw[au (by omega)]at hi;cases hi
    .exact h1
   rw[c i (.inr hi'),L.old i hi'];exact S.jU hk i p hi
 have hP0:Of J P E:=⟨hP.P,hP.mem,hP.pk⟩;have R0:RF m f fr:=R.Kn H l;have hf0:Free m h0.nx d.nx:=λi h1 g=>n i (λhx=>by have:=L.top;omega);have W:=C.2.2 J m w fr cs hP0 S0 R0 hf0;rw[← L.df];refine W.frame Z (Kept.refl _ _ _) ?_
 rintro d' g' w' v ⟨s,fr',rfl,hg,M,hv,rfl⟩
 let inv:Nat->Option Nat:=λi=>(List.range d.nx).find? λj=>decide (h0.nx<=j∧ρ j=i);have hinv:∀j,h0.nx<=j->j<d.nx->inv (ρ j)=some j:=by
  intro j h1 g;show(List.range d.nx).find? _=some j;cases N:(List.range d.nx).find? (λk=>decide (h0.nx<=k∧ρ k=ρ j))with
  |none=>
   have:=List.find?_eq_none.1 N j (cZ.2 g);simp[h1]at this
  |some k=>
   have U:=List.find?_some N;have h4:=cZ.1 (List.mem_of_find?_eq_some N);simp at U;rw[L.inj k j h4 g U.2]
 let ι':Nm:=λi=>if h.nx<=i∧i<h'.nx then(match inv i with |some j=>s j|none=>none)else ι i;have e:∀i,¬(h.nx<=i∧i<h'.nx)->ι' i=ι i:=λi hi=>au hi;have O:∀j,h0.nx<=j->j<d.nx->ι' (ρ j)=s j:=λj h1 g=>by
  show(if h.nx<=ρ j∧ρ j<h'.nx then _ else _)=_;rw[aH (L.new j h1 g),hinv j h1 g]
 have Q:Ext ι ι':=λi p hi=>by
  by_cases D:h.nx<=i∧i<h'.nx
  .rw[hf i D.1 D.2]at hi;cases hi
  .rw[e i D];exact hi
 have y:QA ρ s ι':=λi p hi=>by
  rcases aZ i h0.nx with h1|h1
  .rw[hg.same i (.inl h1),c i (.inl h1)]at hi
   rw[e (ρ i) (by have:=L.low i h1;omega)];exact hi
  .rcases aZ i d.nx with g|g
   .rw[O i h1 g];exact hi
   .rw[hg.same i (.inr g)]at hi
    by_cases D:i<h0.nx∨OLD<=i
    .rw[c i D]at hi
     have U:OLD<=i:=by omega
     rw[L.old i U]at hi ⊢;rw[e i (by have:=L.top';omega)];exact hi
    .rw[n i D]at hi;cases hi
 have old:∀i o,h.tr.get i=some o->X i->o.live->∃p ob,ι i=some p∧¬K.fz p.1∧K.own p.1∧w'.heap[p.1]? =some ob∧RO K.P ι p.2 o ob∧¬J.own p.1:=by
  intro i o h1 g l;obtain⟨p,ob,e1,e2,A,B,G⟩:=S.objs i o h1 l;have hn:¬J.own p.1:=λhx=>hx.2 ⟨i,o,p,g,h1,l,e1,rfl⟩;exact⟨p,ob,e1,e2,A,(v.same p.1 (lt_of_heap B) e2 A hn).trans B,G,hn⟩
 have new:∀j r,d.tr.get j=some r->r.live->∃p ob,s j=some p∧ι' (ρ j)=some p∧¬K.fz p.1∧J.own p.1∧w'.heap[p.1]? =some ob∧RO K.P ι' p.2 (r.ren ρ) ob:=by
  intro j r h1 l;obtain⟨p,ob,e1,e2,A,B,G⟩:=M.objs j r h1 l;exact⟨p,ob,e1,y j p e1,e2,A,B,RO.ren y G⟩
 have hX:∀i,(∀j r,h0.tr.get j=some r->r.live->i≠ρ j)->X i:=λi hi ⟨j,r,h1,g,U⟩=>hi j r h1 g U;refine⟨ι',fr',rfl,⟨L.le,λi hi=>e i (by omega)⟩,⟨λi o hi l=>?_,λi j o F p q e1 e2 l1 l2 hp u t=>?_,aQ S.lo v.size,M.bs,M.old,M.os,M.tape,M.output,λhk=>(S.jU hk).trans Q⟩,hv.aa5 y I,by rw[L.df']⟩
 .rcases L.behind i o hi l with⟨j,r,h1,rfl,rfl⟩|⟨h1,g⟩
  .obtain⟨p,ob,_,e2,A,B,G,e6⟩:=new j r h1 (AO.dS.1 l)
   exact⟨p,ob,e2,A,B.1,G,e6⟩
  .obtain⟨p,ob,e1,e2,A,B,G,_⟩:=old i o h1 (hX i g) l
   exact⟨p,ob,Q _ _ e1,e2,A,B,G.mono Q⟩
 .rcases L.behind i o e1 l1 with⟨a,oa,T,rfl,rfl⟩|⟨T,g2⟩<;>rcases L.behind j F e2 l2 with⟨b,ob,k1,rfl,rfl⟩|⟨k1,k2⟩
  .obtain⟨p',_,V,z,_⟩:=new a oa T (AO.dS.1 l1)
   obtain⟨q',_,m3,Y,_⟩:=new b ob k1 (AO.dS.1 l2);rw[hp]at z;cases z;rw[u]at Y;cases Y;rw[M.inj a b oa ob _ _ T k1 (AO.dS.1 l1) (AO.dS.1 l2) V m3 t]
  .obtain⟨p',_,V,z,_,m5,_⟩:=new a oa T (AO.dS.1 l1)
   obtain⟨q',_,m3,_,_,_,_,Y⟩:=old j F k1 (hX j k2) l2;rw[hp]at z;cases z;rw[Q _ _ m3]at u;cases u;exact aP (t▸m5) Y
  .obtain⟨p',_,V,z,_,m5,_⟩:=new b ob k1 (AO.dS.1 l2)
   obtain⟨q',_,m3,_,_,_,_,Y⟩:=old i o T (hX i g2) l1;rw[u]at z;cases z;rw[Q _ _ m3]at hp;cases hp;exact aP (t▸m5) Y
  .obtain⟨p',_,V,_⟩:=S.objs i o T l1
   obtain⟨q',_,z,_⟩:=S.objs j F k1 l2;rw[Q _ _ V]at hp;cases hp;rw[Q _ _ z]at u;cases u;exact S.inj i j o F _ _ T k1 l1 l2 V z t
end
section
open Go.Conc (G)
variable{g:FuncId}
structure Pm where
 to:Nat->Nat
 inv:Nat->Nat
 li:∀x,inv (to x)=x
 ri:∀x,to (inv x)=x
 old:∀x,OLD<=x->to x=x
theorem Pm.inj(θ:Pm){x y:Nat}(h:θ.to x=θ.to y):x=y:=by rw[← θ.li x,h,θ.li]
theorem Pm.old'(θ:Pm){x:Nat}(h:OLD<=x):θ.inv x=x:=θ.inj (by rw[θ.ri,θ.old x h])
theorem Pm.lt(θ:Pm){x:Nat}(h:x<OLD):θ.to x<OLD:=by
 rcases aZ (θ.to x) OLD with h1|h1
 .exact h1
 .have:=θ.old _ h1
  have:=θ.inj this;omega
def swp(a b x:Nat):Nat:=if x=a then b else if x=b then a else x
theorem QX(a b x:Nat):swp a b (swp a b x)=x:=by
 unfold swp;by_cases h1:x=a
 .rw[aH h1]
  by_cases c:b=a
  .rw[aH c];omega
  .rw[au c,aH rfl];exact h1.symm
 .rw[au h1]
  by_cases c:x=b
  .rw[aH c,aH rfl];exact c.symm
  .rw[au c,au h1,au c]
theorem aag(a b:Nat):swp a b a=b:=aH rfl
theorem Vm{a b x:Nat}(h1:x≠a)(c:x≠b):swp a b x=x:=by unfold swp;rw[au h1,au c]
def Pm.one:Pm:=⟨id,id,λ_=>rfl,λ_=>rfl,λ_ _=>rfl⟩
def Pm.sw(θ:Pm)(a b:Nat)(c:a<OLD)(d:b<OLD):Pm where
 to:=λx=>swp a b (θ.to x)
 inv:=λx=>θ.inv (swp a b x)
 li:=λx=>by show θ.inv (swp a b (swp a b (θ.to x)))=x;rw[QX,θ.li]
 ri:=λx=>by show swp a b (θ.to (θ.inv (swp a b x)))=x;rw[θ.ri,QX]
 old:=λx h=>by show swp a b (θ.to x)=x;rw[θ.old x h,Vm (by omega) (by omega)]
theorem Pm.of:∀(a b:List Nat),a.length=b.length->a.Nodup->b.Nodup->(∀x∈a,x<OLD)->(∀x∈b,x<OLD)->∃θ:Pm,a.map θ.to=b
 |[],[],_,_,_,_,_=>⟨Pm.one,rfl⟩
 |x::a,y::b,k,i,j,d,g=>by
  rw[fJ]at i j;obtain⟨θ,h⟩:=Pm.of a b (by simpa using k) i.2 j.2 (λz c=>d z (bg _ c)) (λz c=>g z (bg _ c));refine⟨θ.sw (θ.to x) y (θ.lt (d x bK)) (g y bK),?_⟩;show swp (θ.to x) y (θ.to x)::a.map (λz=>swp (θ.to x) y (θ.to z))=y::b;rw[aag];congr 1;rw[← h];apply List.map_congr_left;intro z c;refine Vm (λe=>i.1 (θ.inj e▸c)) (λe=>j.1 ?_);rw[← h,← e];exact List.mem_map_of_mem c
 |[],_::_,h,_,_,_,_=>by cases h
 |_::_,[],h,_,_,_,_=>by cases h
mutual
theorem AV.KG{ρ σ:Nat->Nat}(h:∀x,ρ (σ x)=x):∀a:AV,(a.ren σ).ren ρ=a
 | .ptr i o=>by show AV.ptr (ρ (σ i)) o=_;rw[h]
 | .sl i o l c=>by show AV.sl (ρ (σ i)) o l c=_;rw[h]
 | .map i=>by show AV.map (ρ (σ i))=_;rw[h]
 | .yield i=>by show AV.yield (ρ (σ i))=_;rw[h]
 | .fn f a b=>by
   show AV.fn f (AV.jC ρ (AV.jC σ a)) (AV.jC ρ (AV.jC σ b))=_;rw[AV.wR h,AV.wR h]
 | .iface t v=>by show AV.iface t ((v.ren σ).ren ρ)=_;rw[AV.KG h]
 | .agg l=>by show AV.agg (AV.jC ρ (AV.jC σ l))=_;rw[AV.wR h]
 | .bV l=>by show AV.bV (AV.jC ρ (AV.jC σ l))=_;rw[AV.wR h]
 | .any| .one| .bool _| .int _ _| .str _| .nQ| .aM| .emp| .aO _ _ _| .nT| .sD| .kH=>rfl
theorem AV.wR{ρ σ:Nat->Nat}(h:∀x,ρ (σ x)=x):∀l:List AV,AV.jC ρ (AV.jC σ l)=l
 |[]=>rfl
 |a::l=>by show(a.ren σ).ren ρ::AV.jC ρ (AV.jC σ l)=_;rw[AV.KG h,AV.wR h]
end
def AV.un(θ:Pm)(a:AV):AV:=a.ren θ.inv
def fQ(θ:Pm)(l:List AV):List AV:=AV.jC θ.inv l
@[simp] theorem AV.jo(θ:Pm)(a:AV):(a.un θ).ren θ.to=a:=AV.KG θ.ri a
@[simp] theorem aaS(θ:Pm)(l:List AV):AV.jC θ.to (fQ θ l)=l:=AV.wR θ.ri l
theorem xI(ρ:Nat->Nat):∀l:List AV,AV.jC ρ l=l.map (AV.ren ρ)
 |[]=>rfl
 |a::l=>by show a.ren ρ::AV.jC ρ l=_;rw[xI ρ l];rfl
theorem tK{θ:Pm}{l:List AV}{i:Nat}{a:AV}(h:l[i]? =some a):(fQ θ l)[i]? =some (a.un θ):=by
 unfold fQ;rw[xI,eu,h];rfl
theorem nI(θ:Pm)(l:List AV):(fQ θ l).length=l.length:=vB _ _
mutual
theorem AV.vD:∀a:AV,a.low OLD=true
 | .ptr i _| .sl i _ _ _| .map i| .yield i=>by
   show(Nat.blt i OLD||Nat.ble OLD i)=true;rcases aZ i OLD with h|h
   .rw[show Nat.blt i OLD=true from aW h];rfl
   .rw[show Nat.ble OLD i=true from aW h,jm]
 | .fn _ a b=>by show(AV.dX OLD a&&AV.dX OLD b)=true;rw[AV.yX a,AV.yX b];rfl
 | .iface _ v=>AV.vD v
 | .agg l| .bV l=>AV.yX l
 | .any| .one| .bool _| .int _ _| .str _| .nQ| .aM| .emp| .aO _ _ _| .nT| .sD| .kH=>rfl
theorem AV.yX:∀l:List AV,AV.dX OLD l=true
 |[]=>rfl
 |a::l=>by show(a.low OLD&&AV.dX OLD l)=true;rw[AV.vD a,AV.yX l];rfl
end
theorem zQ:∀t:Tr AV,yO OLD t=true
 | .e=>rfl
 | .n l v r=>by unfold yO;rw[zQ l,zQ r];cases v<;>simp[AV.vD]
theorem Nf(i:Nat):YW OLD i=true:=by
 have:=AV.vD (.ptr i 0);exact this
theorem AO.vD(o:AO):o.low OLD=true:=by
 cases o with
 |cells vs=>exact AV.yX vs
 |map es=>show(es.all λe=>e.key.low OLD&&e.val.low OLD)=true;simp[AV.vD]
 |GR m=>cases m with
  |none=>rfl
  |some m=>exact Nf m
 |loop st p fn nt tm ps a b d=>show(yO OLD tm&&YW OLD d)=true;rw[zQ,Nf];rfl
 |_=>rfl
theorem AF.plain.low{f:AF}(h:f.plain):f.low OLD:=⟨zQ _,h.todo,h.ds,h.round⟩
def Hu(g:Nat->Nat):Tr AO->List (Nat×AO)
 | .e=>[]
 | .n l v r=>(match v with |some o=>[(g 0,o)]|none=>[])++(Hu (λi=>g (2*i+1)) l++Hu (λi=>g (2*i+2)) r)
def ents(t:Tr AO):List (Nat×AO):=Hu (λi=>i) t
theorem ED:∀{t:Tr AO} {g:Nat->Nat} {i:Nat} {o:AO},t.get i=some o->(g i,o)∈Hu g t
 | .e,g,i,o,h=>by rw[Tr.dN]at h;cases h
 | .n l v r,g,i,o,h=>by
   unfold Hu;rw[Tr.jh]at h;by_cases h0:i=0
   .rw[aH h0]at h
    subst h0;subst h;exact jO _ (bR.2 rfl)
   .rw[au h0]at h
    by_cases h1:i % 2=1
    .rw[aH h1]at h
     have:=ED (g:=λi=>g (2*i+1)) h;refine gJ _ (jO _ ?_);rw[show 2*(i / 2)+1=i by omega]at this;exact this
    .rw[au h1]at h
     have:=ED (g:=λi=>g (2*i+2)) h;refine gJ _ (gJ _ ?_);rw[show 2*(i / 2 - 1)+2=i by omega]at this;exact this
theorem CV{t:Tr AO}{i:Nat}{o:AO}(h:t.get i=some o):(i,o)∈ents t:=ED (g:=λi=>i) h
theorem EC:∀{t:Tr AO} {g:Nat->Nat} {p:Nat×AO},p∈Hu g t->∃i,p.1=g i∧t.get i=some p.2
 | .e,g,p,h=>by cases h
 | .n l v r,g,p,h=>by
   unfold Hu at h;rcases bF.1 h with h|h
   .cases v with
    |none=>cases h
    |some o=>
     rcases bR.1 h with rfl;exact⟨0,rfl,by rw[Tr.jh,aH rfl]⟩
   .rcases bF.1 h with h|h
    .obtain⟨i,h1,a⟩:=EC h
     exact⟨2*i+1,h1,by rw[Tr.jh,au (by omega),aH (by omega),show(2*i+1) / 2=i by omega];exact a⟩
    .obtain⟨i,h1,a⟩:=EC h
     exact⟨2*i+2,h1,by rw[Tr.jh,au (by omega),au (by omega),show(2*i+2) / 2 - 1=i by omega];exact a⟩
theorem NY{t:Tr AO}{p:Nat×AO}(h:p∈ents t):t.get p.1=some p.2:=by
 obtain⟨i,h1,a⟩:=EC h;rw[h1];exact a
abbrev Mm:=Nat->AO
def FT(K:Ctx)(ι:Nm)(m:Mm)(w:World):Prop:=sS K ι (λi o=>m i=o) w
def dH(m:Mm):List (Nat×AO)->Mm
 |[]=>m
 |(i,o)::l=>λk=>if k=i then o else dH m l k
theorem QT{m:Mm}:∀{l:List (Nat×AO)} {k:Nat},k∈l.map Prod.fst->(k,dH m l k)∈l
 |(i,o)::l,k,h=>by
  unfold dH;by_cases a:k=i
  .rw[aH a,a];exact bK
  .rw[au a]
   exact bg _ (QT (by
    rcases ay.1 (show k∈i::l.map Prod.fst from h)with h|h
    .exact aP h a
    .exact h))
theorem wM{m:Mm}:∀{l:List (Nat×AO)} {k:Nat},¬k∈l.map Prod.fst->dH m l k=m k
 |[],_,_=>rfl
 |(i,o)::l,k,h=>by
  have h:¬k∈i::l.map Prod.fst:=h;rw[ay,not_or]at h;unfold dH;rw[au h.1,wM h.2]
abbrev rP:=Old->AV->Mm->Nat->Prop
def Yl(P:Program)(E:Env)(old:Old)(K:Ctx)(ι:Nm)(c:Frame)(a:List Frame)(R:rP):Nat->Goroutine->World->Prop:=λd g w=>
 ∃b old' ι' v u m' N',g=G (back .normal c u) a∧Fz K b∧Of b P (E.wo old')∧Old.le old old'∧Ext ι ι'∧FT b ι' m' w∧RV ι' v u∧Free ι' N' OLD∧R old' v m' N'∧d=0
def dA(P:Program)(E:Env)(old:Old)(f:AF)(m:Mm)(N:Nat)(R:rP):Prop:=
 ∀(K:Ctx) (ι:Nm) (w:World) (fr c:Frame) (a:List Frame),Of K P (E.wo old)->FT K ι m w->RF ι f fr->Free ι N OLD->fr.kind= .normal->Walk P true K (Yl P E old K ι c a R) 0 (G fr (c::a)) w
def CallM(P:Program)(E:Env)(old:Old)(g:FuncId)(args:List AV)(m:Mm)(N:Nat)(R:rP):Prop:=
 ∀(K:Ctx) (ι:Nm) (w:World) (vs:Array Value) (c:Frame) (a:List Frame),Of K P (E.wo old)->FT K ι m w->dJ ι args vs.toList->Free ι N OLD->Walk P true K (Yl P E old K ι c a R) 0 (G (Frame.enter P g vs .normal) (c::a)) w
section
variable{P:Program}{E:Env}{Z:Old}{f f':AF}{m Y:Mm}{N N':Nat}{R X:rP}
theorem Yl.up{K n:Ctx}{ι ι':Nm}{old':Old}{c:Frame}{j:List Frame}(z:Fz K n)(l:Old.le Z old')(o:Ext ι ι'){d:Nat}{g:Goroutine}{w:World}(H:Yl P E old' n ι' c j R d g w):Yl P E Z K ι c j R d g w:=by
 obtain⟨r,o2,k,v,u,Y,N',a,b,p,e,x,q⟩:=H;exact⟨r,o2,k,v,u,Y,N',a,z.trans b,p,Old.le_trans l e,λi p h=>x i p (o i p h),q⟩
theorem CallM.mono{g:FuncId}{args:List AV}(A:CallM P E Z g args m N R)(h:∀old' v Y N',Old.le Z old'->R old' v Y N'->X old' v Y N'):CallM P E Z g args m N X:=λK ι w vs c e i S j k=>
 (A K ι w vs c e i S j k).mono λd g w ⟨n,o,ι',v,u,Y,N',a,b,p,l,x,s,rv,fr,q,r⟩=>⟨n,o,ι',v,u,Y,N',a,b,p,l,x,s,rv,fr,h _ _ _ _ l q,r⟩
theorem CallM.of{args:List AV}(FF:dM P (E.wo Z))(h:(iW (E.wo Z) g args false).isSome=true)(A:dA P E Z (ent (E.wo Z) g args) m N R):CallM P E Z g args m N R:=by
 intro K ι w vs c a i S j d;cases e:iW (E.wo Z) g args false with
 |none=>rw[e]at h;cases h
 |some f0=>
  have b:ent (E.wo Z) g args=f0:=by unfold Ev.ent;rw[e]
  rw[b]at A;exact A K ι w (Frame.enter P g vs .normal) c a i S (kL FF e j rfl) d rfl
theorem CallM.Rt{args:List AV}{Q:Old->AV->Prop}(C:dU P E Z g args Q)(d:AV.dX 0 args=true)(t:∀old' v,Old.le Z old'->Q old' v->R old' v m N):CallM P E Z g args m N R:=by
 intro K ι w vs c k r S x y;have n:=S.jU (r.pk rfl);have A:Sat K dI eH w:=⟨λi o e=>(by rw[show eH.tr.get i=none from Tr.dN i]at e;cases e),λi j o T p q e=>(by rw[show eH.tr.get i=none from Tr.dN i]at e;cases e),S.lo,S.bs,S.old,S.os,S.tape,S.output,λ_ _ _ h=>h⟩;refine(C K w vs c k r A (dJ.xO n d x)).mono ?_
 rintro U g' B ⟨D,old',v,u,rfl,z,F,l,q,rv,b,rfl,G,a⟩
 refine⟨D,old',ι,v,u,m,N,rfl,z,F,l,λ_ _ h=>h,?_,rv.mono n,y,t _ _ l q,rfl⟩;refine⟨λi o e H=>?_,S.inj,b.lo,b.bs,b.old,b.os,b.tape,b.output,λ_=>n⟩;obtain⟨p,ob,e1,e2,I,s,J⟩:=S.objs i o e H;obtain⟨L,M,O⟩:=a p.1 (lt_of_heap s) e2 I;exact⟨p,ob,e1,M,L,O.trans s,by rw[z.P];exact J⟩
theorem bO.ofM{h:AH}{Q:Old->AV->Prop}(A:dA P E Z f m h.nx (λold' v _ _=>Q old' v∧v.low 0=true))(n:∀i,(m i).live->h.tr.get i=some (m i))(b:h.df=0):bO P E Z f h Q:=λK ι w fr c a r S t y B=>by
 rw[b];refine(A K ι w fr c a r (S.toM λi o e l=>by subst e;exact n i l) t y B).mono ?_
 rintro d g w' ⟨C,k,ι',v,u,Y,N',rfl,z,p,l,x,s,rv,fr,⟨q,D⟩,rfl⟩
 refine⟨C,k,v,u,rfl,z,p,l,q,RV.xO (s.jU (p.pk rfl)) D rv,⟨λi o e=>(by rw[show eH.tr.get i=none from Tr.dN i]at e;cases e),λi j o k p q e=>(by rw[show eH.tr.get i=none from Tr.dN i]at e;cases e),s.lo,s.bs,s.old,s.os,s.tape,s.output,λ_ _ _ h=>h⟩,rfl⟩
end
end
end Go.Ev
