/- A part of the proof that ProofGreat returns true. -/
import Derived.Test.YtngcidmhopkokaaGreatDoorMyRun
import Derived.Test.YtngcidmhopkokaaGreatDoorMyFits
import Derived.Test.YtngcidmhopkokaaGreatDoorCards
import Derived.Test.YtngcidmhopkokaaGreatDoorTie
import Derived.Conc.HoldsTime
import Derived.WalkKit
import Derived.ProofKit
import Derived.OpenShut
import Derived.Deep.DeepHandedRow
import Derived.Lib.LaidTab
set_option linter.all false
namespace Go
open Go.Conc
theorem Dz{H:Type}{enc:TypeId×Value->H}{C:Checked}{os:Os}{f:FuncId}{fn:Func}{s:OpenSpec}{a:List PathCond}{apart:Bool}{laid:List (String×DataW Unit)}(w0:World)(args:Array Value)(d:w0.os=os)
 (e:(w0.forCall (λ_ _=>0) ⟨#[],args,[]⟩).variablesB C.prog=true)
 (hr:((w0.forCall (λ_ _=>0) ⟨#[],args,[]⟩).heap.toList.drop C.prog.globals.size).take ((begin C.prog (λ_ _=>0) default).world.heap.size - C.prog.globals.size)=
  (begin C.prog (λ_ _=>0) default).world.heap.toList.drop C.prog.globals.size)
 (b:Input.okWideB C.prog (w0.forCall (λ_ _=>0) ⟨#[],args,[]⟩) f ⟨#[],args,[]⟩=true)
 (c:s.preRow enc C.prog fn a apart laid (w0.forCall (λ_ _=>0) ⟨#[],args,[]⟩).memory args):
 ∃(w:World) (tape:Tape) (i:Input),w.os=os∧(w.forCall tape i).Shaped C.prog∧i.vars=[]∧Input.okWide C.prog (w.forCall tape i) .any w.heap.size f i∧
  s.preRow enc C.prog fn a apart laid (w.forCall tape i).memory i.args∧({ calm:=true }:Assume).holds C.prog (lone (Frame.enter C.prog f i.args .normal) [] (w.forCall tape i)):=
 ⟨w0,λ_ _=>0,⟨#[],args,[]⟩,d,World.shaped_of_B e hr,(Input.okWide_of_okWideB (base:=0) b).1,(Input.okWide_of_okWideB b).2,c,by
  simp only[Assume.holds];exact⟨by simp,λ_ _ _ _=>rfl,by simp,by simp,by simp⟩⟩
theorem qD{H:Type}{enc:TypeId×Value->H}{a:Assume}{C:Checked}{os:Os}{f:FuncId}{fn:Func}{s:ChangeSpec}{F:Stop.Interp}{c:List PathCond}{apart d b:Bool}{laid:List (String×DataW Unit)}
 (own:ownKnob C.prog.godebug=none)(g:os.Started)(q:C.prog.funcs[f]? =some fn)
 (h:∃(w:World) (tape:Tape) (i:Input),w.os=os∧(w.forCall tape i).Shaped C.prog∧i.vars=[]∧Input.okWide C.prog (w.forCall tape i) .any w.heap.size f i∧
  (OpenSpec.ofChange s).preRow enc C.prog fn c apart laid (w.forCall tape i).memory i.args∧a.holds C.prog (lone (Frame.enter C.prog f i.args .normal) [] (w.forCall tape i)))
 (runs:∀(W:World) (base:Nat) (args:Array Value) (ds r:List (DataW H)) (before:List MemPlace),
  (∀(j:Nat) t v,fn.params[j]? =some t->args[j]? =some v->Value.okWide C.prog W .any base t v)->
  DataW.Whole enc C.prog fn.params.toList s.vars apart W args.toList ds r before->
  laidMetH C.prog laid W->
  ∃M last o w' n,runNT C.prog (M+1) (solo (G (Frame.enter C.prog f args .normal) []) W) #[]=(.ended o w',n)∧runN C.prog M (solo (G (Frame.enter C.prog f args .normal) []) W)= .next last∧
   step C.prog last= .ended o w'∧Conc.Good C.prog (λv W'=>s.post enc C.prog fn apart d b false W args v { W' with os:=W.os }∧ConcM.OsLater W.os W'.os) last o w' n):
 ReturnsInLeavingWide a C os f .any ((OpenSpec.ofChange s).preRow enc C.prog fn c apart laid) ((OpenSpec.ofChange s).postWith enc C.prog fn F (outsideKept [.timePasses]) apart d b):=by
 refine returnsInLeavingWide_of_good own g h ?_;intro w tape i _ _ _ u k p;obtain⟨_,_,_,x,l,_,_,_,_,m⟩:=u;have e:x=fn:=Option.some.inj (l.symm.trans q);subst e;obtain⟨⟨hp,z⟩,K⟩:=k;obtain⟨ds,r,before,A,L,N⟩:=OpenSpec.pre_parts hp;have y:=DataW.Whole.of_heap (w':=w.forCall tape i) (by rfl) A;obtain⟨M,last,o,w',n,h1,B,D,E⟩:=runs (w.forCall tape i) w.heap.size i.args ds r before m y (z.of_heap (by rfl));obtain⟨v,e,hp,r1,r2,I,J⟩:=E;exact⟨M,last,o,w',n,h1,B,D,v,e,postWith_blind (postWith_of_post hp.1 hp.2),r1,r2,I,J⟩
end Go
namespace Go.Proofs.YtngcidmhopkokaaGreatDoor
open Go.ChangeShapes Go.WideShapes Go.ChangeAt Go.RowKit Go.Conc Go.ConcM
theorem own:ownKnob Tryz.prog.godebug=none:=by kernel_rfl
theorem laidOut:laidOutB Tryz.prog=true:=by kernel_rfl
def put(vs:Array Value):Obj->Obj
 | .cells _ t a=> .cells vs t a
 |o=>o
noncomputable def Ep(os:Os):World:=
 { World.holding Tryz.prog os ⟨#[],#[],[]⟩with heap:=((((World.holding Tryz.prog os ⟨#[],#[],[]⟩).heap.modify 2 (put #[.int .u8 0,.int .u8 1,.int .u8 28,.int .u8 2,.int .u8 29,.int .u8 14,.int .u8 24,.int .u8 3,.int .u8 30,.int .u8 22,.int .u8 20,.int .u8 15,.int .u8 25,.int .u8 17,.int .u8 4,.int .u8 8,.int .u8 31,.int .u8 27,.int .u8 13,.int .u8 23,.int .u8 21,.int .u8 19,.int .u8 16,.int .u8 7,.int .u8 26,.int .u8 12,.int .u8 18,.int .u8 6,.int .u8 11,.int .u8 5,.int .u8 10,.int .u8 9])).modify 3 (put #[.int .u8 0,.int .u8 1,.int .u8 56,.int .u8 2,.int .u8 57,.int .u8 49,.int .u8 28,.int .u8 3,.int .u8 61,.int .u8 58,.int .u8 42,.int .u8 50,.int .u8 38,.int .u8 29,.int .u8 17,.int .u8 4,.int .u8 62,.int .u8 47,.int .u8 59,.int .u8 36,.int .u8 45,.int .u8 43,.int .u8 51,.int .u8 22,.int .u8 53,.int .u8 39,.int .u8 33,.int .u8 30,.int .u8 24,.int .u8 18,.int .u8 12,.int .u8 5,.int .u8 63,.int .u8 55,.int .u8 48,.int .u8 27,.int .u8 60,.int .u8 41,.int .u8 37,.int .u8 16,.int .u8 46,.int .u8 35,.int .u8 44,.int .u8 21,.int .u8 52,.int .u8 32,.int .u8 23,.int .u8 11,.int .u8 54,.int .u8 26,.int .u8 40,.int .u8 15,.int .u8 34,.int .u8 20,.int .u8 31,.int .u8 10,.int .u8 25,.int .u8 14,.int .u8 19,.int .u8 9,.int .u8 13,.int .u8 8,.int .u8 7,.int .u8 6])).modify 1 (put #[.int .u64 1,.int .u64 10,.int .u64 100,.int .u64 1000,.int .u64 10000,.int .u64 100000,.int .u64 1000000,.int .u64 10000000,.int .u64 100000000,.int .u64 1000000000,.int .u64 10000000000,.int .u64 100000000000,.int .u64 1000000000000,.int .u64 10000000000000,.int .u64 100000000000000,.int .u64 1000000000000000,.int .u64 10000000000000000,.int .u64 100000000000000000,.int .u64 1000000000000000000,.int .u64 10000000000000000000])) }
theorem Wn(os:Os):laidMet Tryz.prog Rows.proofGreatRow.laid ((Ep os).forCall (λ_ _=>0) ⟨#[],#[],[]⟩).memory:=
 laidMet_of_run' 8 (by kernel_rfl) (by kernel_rfl)
set_option maxRecDepth 100000 in
theorem lifted(os:Os)(a:os.Started)(H:Type)(enc:TypeId×Value->H)(F:Stop.Interp):
 ReturnsInLeavingWide Rows.proofGreatRow.assume Tryz.checked os 3 .any ((OpenSpec.ofChange Rows.proofGreatSpec).preRow enc Tryz.prog Tryz.f3 Rows.proofGreatRow.domain false Rows.proofGreatRow.laid) ((OpenSpec.ofChange Rows.proofGreatSpec).postWith enc Tryz.prog Tryz.f3 F (outsideKept [.timePasses]) false true false):=by
 have b:(DataW.whole enc Tryz.prog ((Ep os).forCall (λ_ _=>0) ⟨#[],#[],[]⟩).memory Tryz.f3.params.toList Rows.proofGreatSpec.vars false (#[]:Array Value).toList 8).isSome=true:=by kernel_rfl
 obtain⟨x,l⟩:=Option.isSome_iff_exists.1 b;refine qD (C:=Tryz.checked) own a Tryz.func3
  (Dz (enc:=enc) (C:=Tryz.checked) (Ep os) #[] rfl (by kernel_rfl) (by kernel_rfl) (by kernel_rfl)
   (OpenSpec.preRow_of_cond 8 l rfl (λk m=>by cases m) (by kernel_rfl) (Wn os))) ?_
 intro W base args ds D before _ g _;have c:=g;obtain⟨p,q,d,n,rfl,_,_⟩:=g;have i:DataW.TrodAll enc Tryz.prog W 0 (λ_=>true) true Tryz.f3.params.toList args.toList ds p:=d;rw[Tryz.params3]at i;obtain⟨rfl,rfl,rfl⟩:=trodAll_none i;obtain⟨rfl,rfl⟩:=trodVars_none n;clear d;simp only[List.append_nil]at c;obtain⟨M,last,o,w',r,r1,r2,s,v,e,hp,t,u,w,y⟩:=Go.Ev.gr_run Go.Ev.tabs Go.Ev.acO Go.Ev.waits Tryz.acG rfl rfl W #[] Go.Ev.bS;refine⟨M,last,o,w',r,r1,r2,s,v,e,⟨?_,(by rw[hp.os];exact OsLater.refl _)⟩,t,u,w,y⟩;obtain⟨⟨ι,j⟩,k1,z,E,A,B⟩:=hp;unfold Go.Ev.RV at j;subst j;have f:Below W.heap.size W { w' with os:=W.os }:=⟨rfl,A,B,k1,z⟩;exact⟨_,_,_,[],[],[],c,trodAll_mk1 (shut_bool Tryz.underlying4 _),trodAll_mk0,rfl,f.frame _,λh=>by cases h⟩
end Go.Proofs.YtngcidmhopkokaaGreatDoor
