/- A part of the proof that ProofBack returns true. -/
import Derived.Test.YtencnjmceojnjaaGreatDoorMyRun
import Derived.Test.YtencnjmceojnjaaGreatDoorMyFits
import Derived.Test.YtencnjmceojnjaaGreatDoorCards
import Derived.Test.YtencnjmceojnjaaGreatDoorTie
import Derived.Conc.HoldsTime
import Derived.WalkKit
import Derived.ProofKit
import Derived.OpenShut
import Derived.Deep.DeepHandedRow
import Derived.Lib.LaidTab
set_option linter.all false
namespace Go
open Go.Conc
theorem Gz{H:Type}{enc:TypeId×Value->H}{C:Checked}{os:Os}{f:FuncId}{fn:Func}{s:OpenSpec}{a:List PathCond}{apart:Bool}{laid:List (String×DataW Unit)}(w0:World)(args:Array Value)(d:w0.os=os)
 (e:(w0.forCall (λ_ _=>0) ⟨#[],args,[]⟩).variablesB C.prog=true)
 (hr:((w0.forCall (λ_ _=>0) ⟨#[],args,[]⟩).heap.toList.drop C.prog.globals.size).take ((begin C.prog (λ_ _=>0) default).world.heap.size - C.prog.globals.size)=
  (begin C.prog (λ_ _=>0) default).world.heap.toList.drop C.prog.globals.size)
 (b:Input.okWideB C.prog (w0.forCall (λ_ _=>0) ⟨#[],args,[]⟩) f ⟨#[],args,[]⟩=true)
 (c:s.preRow enc C.prog fn a apart laid (w0.forCall (λ_ _=>0) ⟨#[],args,[]⟩).memory args):
 ∃(w:World) (tape:Tape) (i:Input),w.os=os∧(w.forCall tape i).Shaped C.prog∧i.vars=[]∧Input.okWide C.prog (w.forCall tape i) .any w.heap.size f i∧
  s.preRow enc C.prog fn a apart laid (w.forCall tape i).memory i.args∧({ calm:=true }:Assume).holds C.prog (lone (Frame.enter C.prog f i.args .normal) [] (w.forCall tape i)):=
 ⟨w0,λ_ _=>0,⟨#[],args,[]⟩,d,World.shaped_of_B e hr,(Input.okWide_of_okWideB (base:=0) b).1,(Input.okWide_of_okWideB b).2,c,by
  simp only[Assume.holds];exact⟨by simp,λ_ _ _ _=>rfl,by simp,by simp,by simp⟩⟩
theorem rZ{H:Type}{enc:TypeId×Value->H}{a:Assume}{C:Checked}{os:Os}{f:FuncId}{fn:Func}{s:ChangeSpec}{F:Stop.Interp}{d:List PathCond}{apart g b:Bool}{laid:List (String×DataW Unit)}
 (own:ownKnob C.prog.godebug=none)(h:os.Started)(u:C.prog.funcs[f]? =some fn)
 (k:∃(w:World) (tape:Tape) (i:Input),w.os=os∧(w.forCall tape i).Shaped C.prog∧i.vars=[]∧Input.okWide C.prog (w.forCall tape i) .any w.heap.size f i∧
  (OpenSpec.ofChange s).preRow enc C.prog fn d apart laid (w.forCall tape i).memory i.args∧a.holds C.prog (lone (Frame.enter C.prog f i.args .normal) [] (w.forCall tape i)))
 (runs:∀(W:World) (base:Nat) (args:Array Value) (ds p:List (DataW H)) (before:List MemPlace),
  (∀(j:Nat) t v,fn.params[j]? =some t->args[j]? =some v->Value.okWide C.prog W .any base t v)->
  DataW.Whole enc C.prog fn.params.toList s.vars apart W args.toList ds p before->
  (DataW.weightsEach C.prog (fn.params.toList++(OpenSpec.ofChange s).bare.plain.varTypes C.prog) (ds++p)).all (·<=reachBytes)=true->
  laidMetH C.prog laid W->
  ∃M c o w' q,runNT C.prog (M+1) (solo (G (Frame.enter C.prog f args .normal) []) W) #[]=(.ended o w',q)∧runN C.prog M (solo (G (Frame.enter C.prog f args .normal) []) W)= .next c∧
   step C.prog c= .ended o w'∧Conc.Good C.prog (λv W'=>s.post enc C.prog fn apart g b false W args v { W' with os:=W.os }∧ConcM.OsLater W.os W'.os) c o w' q):
 ReturnsInLeavingWide a C os f .any ((OpenSpec.ofChange s).preRow enc C.prog fn d apart laid) ((OpenSpec.ofChange s).postWith enc C.prog fn F (outsideKept [.timePasses]) apart g b):=by
 refine returnsInLeavingWide_of_good own h k ?_;intro w tape i _ _ _ x l r;obtain⟨_,_,_,y,m,_,_,_,_,n⟩:=x;have e:y=fn:=Option.some.inj (m.symm.trans u);subst e;obtain⟨⟨hp,B⟩,D⟩:=l;obtain⟨ds,p,before,A,N,O⟩:=OpenSpec.pre_parts hp;have z:=DataW.Whole.of_heap (w':=w.forCall tape i) (by rfl) A;obtain⟨M,c,o,w',q,h1,E,I,J⟩:=runs (w.forCall tape i) w.heap.size i.args ds p before n z (D.weights A) (B.of_heap (by rfl));obtain⟨v,e,hp,r1,r2,K,L⟩:=J;exact⟨M,c,o,w',q,h1,E,I,v,e,postWith_blind (postWith_of_post hp.1 hp.2),r1,r2,K,L⟩
end Go
namespace Go.Proofs.YtencnjmceojnjaaGreatDoor
open Go.ChangeShapes Go.WideShapes Go.ChangeAt Go.RowKit Go.Conc Go.ConcM
theorem own:ownKnob Tryz.prog.godebug=none:=by kernel_rfl
theorem laidOut:laidOutB Tryz.prog=true:=by kernel_rfl
def arg0:Value:= .agg #[.string ⟨#[]⟩,.slice none 0 0,.int .i64 0,.slice none 0 0]
def put(vs:Array Value):Obj->Obj
 | .cells _ t frozen=> .cells vs t frozen
 |o=>o
noncomputable def H6(os:Os):World:=
 { World.holding Tryz.prog os ⟨#[],#[],[]⟩with heap:=((((World.holding Tryz.prog os ⟨#[],#[],[]⟩).heap.modify 2 (put #[.int .u8 0,.int .u8 1,.int .u8 28,.int .u8 2,.int .u8 29,.int .u8 14,.int .u8 24,.int .u8 3,.int .u8 30,.int .u8 22,.int .u8 20,.int .u8 15,.int .u8 25,.int .u8 17,.int .u8 4,.int .u8 8,.int .u8 31,.int .u8 27,.int .u8 13,.int .u8 23,.int .u8 21,.int .u8 19,.int .u8 16,.int .u8 7,.int .u8 26,.int .u8 12,.int .u8 18,.int .u8 6,.int .u8 11,.int .u8 5,.int .u8 10,.int .u8 9])).modify 3 (put #[.int .u8 0,.int .u8 1,.int .u8 56,.int .u8 2,.int .u8 57,.int .u8 49,.int .u8 28,.int .u8 3,.int .u8 61,.int .u8 58,.int .u8 42,.int .u8 50,.int .u8 38,.int .u8 29,.int .u8 17,.int .u8 4,.int .u8 62,.int .u8 47,.int .u8 59,.int .u8 36,.int .u8 45,.int .u8 43,.int .u8 51,.int .u8 22,.int .u8 53,.int .u8 39,.int .u8 33,.int .u8 30,.int .u8 24,.int .u8 18,.int .u8 12,.int .u8 5,.int .u8 63,.int .u8 55,.int .u8 48,.int .u8 27,.int .u8 60,.int .u8 41,.int .u8 37,.int .u8 16,.int .u8 46,.int .u8 35,.int .u8 44,.int .u8 21,.int .u8 52,.int .u8 32,.int .u8 23,.int .u8 11,.int .u8 54,.int .u8 26,.int .u8 40,.int .u8 15,.int .u8 34,.int .u8 20,.int .u8 31,.int .u8 10,.int .u8 25,.int .u8 14,.int .u8 19,.int .u8 9,.int .u8 13,.int .u8 8,.int .u8 7,.int .u8 6])).modify 1 (put #[.int .u64 1,.int .u64 10,.int .u64 100,.int .u64 1000,.int .u64 10000,.int .u64 100000,.int .u64 1000000,.int .u64 10000000,.int .u64 100000000,.int .u64 1000000000,.int .u64 10000000000,.int .u64 100000000000,.int .u64 1000000000000,.int .u64 10000000000000,.int .u64 100000000000000,.int .u64 1000000000000000,.int .u64 10000000000000000,.int .u64 100000000000000000,.int .u64 1000000000000000000,.int .u64 10000000000000000000])) }
theorem aaC(os:Os):laidMet Tryz.prog Rows.proofBackRow.laid ((H6 os).forCall (λ_ _=>0) ⟨#[],#[arg0],[]⟩).memory:=
 laidMet_of_run' 8 (by kernel_rfl) (by kernel_rfl)
set_option maxRecDepth 100000 in
theorem lifted(os:Os)(a:os.Started)(H:Type)(enc:TypeId×Value->H)(F:Stop.Interp):
 ReturnsInLeavingWide Rows.proofBackRow.assume Tryz.checked os 3 .any ((OpenSpec.ofChange Rows.proofBackSpec).preRow enc Tryz.prog Tryz.f3 Rows.proofBackRow.domain false Rows.proofBackRow.laid) ((OpenSpec.ofChange Rows.proofBackSpec).postWith enc Tryz.prog Tryz.f3 F (outsideKept [.timePasses]) false true false):=by
 have f:(DataW.whole enc Tryz.prog ((H6 os).forCall (λ_ _=>0) ⟨#[],#[arg0],[]⟩).memory Tryz.f3.params.toList Rows.proofBackSpec.vars false #[arg0].toList 8).isSome=true:=by kernel_rfl
 obtain⟨x,i⟩:=Option.isSome_iff_exists.1 f;refine rZ (C:=Tryz.checked) own a Tryz.func3
  (Gz (enc:=enc) (C:=Tryz.checked) (H6 os) #[arg0] rfl (by kernel_rfl) (by kernel_rfl) (by kernel_rfl)
   (OpenSpec.preRow_of_cond 8 i rfl (λk E=>by cases E) (by kernel_rfl) (aaC os))) ?_
 intro W base args ds G before b z l _;have c:∀(j:Nat) t v,Tryz.f3.params[j]? =some t->args[j]? =some v->Value.okWide Tryz.prog W .any base t v:=b;have A:(DataW.weightsEach Tryz.prog (Tryz.f3.params.toList++(OpenSpec.ofChange Rows.proofBackSpec).bare.plain.varTypes Tryz.prog) (ds++G)).all (·<=reachBytes)=true:=l;have g:=z;obtain⟨p,q,m,I,rfl,_,_⟩:=z;have B:DataW.TrodAll enc Tryz.prog W 0 (λ_=>true) true Tryz.f3.params.toList args.toList ds p:=m;rw[Tryz.params3]at B c A;obtain⟨v0,J,rfl,rfl,h0⟩:=trodAll_one B;obtain⟨rfl,rfl⟩:=trodVars_none I;have u:Go.Ev.Sm Tryz.prog 27 J:=λw K=>of_decide_eq_true (List.all_eq_true.1 A w (DataW.weights_mem_each (j:=0) rfl rfl w K));obtain⟨x,i,L,n,r⟩:=Go.Ev.Zt ⟨Tryz.underlying25,Tryz.underlying27,Tryz.underlying24,Tryz.underlying22,Tryz.underlying101,⟨rfl,Tryz.underlying3,rfl,Tryz.underlying9,rfl,Tryz.underlying3,Tryz.underlying3,Tryz.underlying9⟩,⟨rfl,rfl,rfl,rfl,rfl,rfl,rfl,rfl⟩,
  ⟨by kernel_rfl,by kernel_rfl,by kernel_rfl,by kernel_rfl,by kernel_rfl,by kernel_rfl,by kernel_rfl,by kernel_rfl⟩,by kernel_rfl,by kernel_rfl,Nat.le_of_ble_eq_true (by kernel_rfl),by kernel_rfl⟩ h0 (c 0 27 v0 rfl rfl) u
 clear m b l;simp only[List.append_nil]at g;have y:∀x∈p,x.block<W.heap.size:=λx i=>by simpa using g.lt x i
 obtain⟨M,s,o,w',N,r1,r2,O,v,e,hp,P,g2,Q,R⟩:=Go.Ev.bk_run Go.Ev.tabs Go.Ev.afk Go.Ev.waits Tryz.afd rfl rfl W #[v0] i L n r;refine⟨M,s,o,w',N,r1,r2,O,v,e,⟨?_,(by rw[hp.os];exact OsLater.refl _)⟩,P,g2,Q,R⟩;obtain⟨⟨ι,D⟩,k1,S,X,T,U⟩:=hp;unfold Go.Ev.RV at D;subst D;have d:Below W.heap.size W { w' with os:=W.os }:=⟨rfl,T,U,k1,S⟩;have V:=Below.trod laidOut (by kernel_rfl) (of_decide_eq_true (by kernel_rfl)) h0 d y;exact⟨_,_,_,[],p,[],g,trodAll_mk1 (shut_bool Tryz.underlying4 _),trodAll_mk1 V,rfl,d.frame _,λh=>by cases h⟩
end Go.Proofs.YtencnjmceojnjaaGreatDoor
