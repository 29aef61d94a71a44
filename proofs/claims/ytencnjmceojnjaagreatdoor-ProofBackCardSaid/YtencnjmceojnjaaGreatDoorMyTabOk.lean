/- A part of the proof that ProofBack returns true. -/
import Derived.Test.YtencnjmceojnjaaGreatDoorMyTab
import Derived.Test.YtencnjmceojnjaaGreatDoorMyEv4
import Derived.Test.YtencnjmceojnjaaGreatDoorChecked
set_option linter.all false
namespace Go.Ev
open Go.Proofs
set_option maxRecDepth 100000
theorem XA:vT (V6 Tryz.prog) ft 0 1:=aga 10 (by kernel_rfl) (by
 simp only[exs,List.forall_mem_cons];exact⟨⟨_,Tryz.func55,by kernel_rfl,⟨Tryz.f55.params,Tryz.f55.resultTypes,56,3,(Tryz.prog.info? 3).getD default,by kernel_rfl,by kernel_rfl,by kernel_rfl,by kernel_rfl⟩⟩,
  ⟨_,Tryz.func188,by kernel_rfl,(show Extern.find Tryz.f188=some Extern.BytealgCompare.compare from by kernel_rfl)⟩,
  ⟨_,Tryz.func196,by kernel_rfl,⟨.releaseMerge,by kernel_rfl,.inr (.inr (.inl rfl))⟩⟩,
  ⟨_,Tryz.func197,by kernel_rfl,(show Extern.find Tryz.f197=some (λ_=>do mark .disable;Pure.pure Extern.Race.none_)from by kernel_rfl)⟩,
  ⟨_,Tryz.func198,by kernel_rfl,(show Extern.find Tryz.f198=some (λ_=>do mark .enable;Pure.pure Extern.Race.none_)from by kernel_rfl)⟩,
  ⟨_,Tryz.func199,by kernel_rfl,⟨λ_=>Pure.pure (.bool false),by kernel_rfl,λ_=>rfl⟩⟩,
  ⟨_,Tryz.func204,by kernel_rfl,⟨.read,by kernel_rfl,.inr (.inr (.inr (.inl rfl)))⟩⟩,
  ⟨_,Tryz.func215,by kernel_rfl,⟨.acquire,by kernel_rfl,.inl rfl⟩⟩,
  ⟨_,Tryz.func218,by kernel_rfl,⟨.write,by kernel_rfl,.inr (.inr (.inr (.inr rfl)))⟩⟩,
  ⟨_,Tryz.func278,by kernel_rfl,(show Extern.find Tryz.f278=some (Extern.Atomic.update (Op.intArith .add) .u64 true)from by kernel_rfl)⟩,
  ⟨_,Tryz.func279,by kernel_rfl,(show Extern.find Tryz.f279=some (Extern.Atomic.loadT (.int .u64))from by kernel_rfl)⟩,
  ⟨_,Tryz.func292,by kernel_rfl,(show Extern.find Tryz.f292=some (Extern.Atomic.casT (.int .u64))from by kernel_rfl)⟩,
  ⟨_,Tryz.func343,by kernel_rfl,(show Extern.find Tryz.f343=some (Extern.Atomic.casT (.int .i32))from by kernel_rfl)⟩,
  ⟨_,Tryz.func345,by kernel_rfl,(show Extern.find Tryz.f345=some (Extern.Atomic.update (Op.intArith .add) .i32 true)from by kernel_rfl)⟩,
  ⟨_,Tryz.func359,by kernel_rfl,⟨Extern.AbiNoEscape.same,by kernel_rfl,λ_=>rfl⟩⟩,λ_ h=>by cases h⟩)
theorem afi:allT (Wx Tryz.prog) tt 0 1=true:=by kernel_rfl
end Go.Ev
namespace Go.Proofs
abbrev Tryz.link:Go.Conc.Lib.WgLink:={ add:=143,done:=145,wait:=147,relMerge:=196,disable:=197,enable:=198,inBubble:=199,associate:=200,fatal:=201,uOr:=202,uAdd:=203,raceRead:=204,uLoad:=205,uStore:=206,disassociate:=207,semrelease:=208,acquire:=215,isAssociated:=216,uCas:=217,raceWrite:=218,semacquire:=219,orU64:=277,addU64:=278,loadU64:=279,storeU64:=280,casU64:=292,tWgP:=354,tUP:=356,tAssoc:=357,tWg:=283,tAU:=281,tU64:=264,tUint:=133,tU32:=164,tPU32:=361,tPAU:=443,tPU64:=445,tNoCopy:=163,tANoCopy:=278,tAlign64:=279 }
theorem Tryz.afd:Go.Conc.Lib.WgLib Tryz.prog Tryz.link:=
 ⟨Tryz.func143,Tryz.func145,Tryz.func147,Tryz.func196,Tryz.func197,Tryz.func198,Tryz.func199,Tryz.func200,Tryz.func201,Tryz.func202,Tryz.func203,Tryz.func204,Tryz.func205,Tryz.func206,Tryz.func207,Tryz.func208,Tryz.func215,Tryz.func216,Tryz.func217,Tryz.func218,Tryz.func219,Tryz.func277,Tryz.func278,Tryz.func279,Tryz.func280,Tryz.func292,Tryz.underlying354,Tryz.runUnderlying354,Tryz.sizeOf354,Tryz.isAgg354,Tryz.zeroValue354,Tryz.underlying356,Tryz.runUnderlying356,Tryz.sizeOf356,Tryz.isAgg356,Tryz.zeroValue356,Tryz.underlying357,Tryz.runUnderlying357,Tryz.sizeOf357,Tryz.isAgg357,Tryz.zeroValue357,Tryz.underlying283,Tryz.runUnderlying283,Tryz.sizeOf283,Tryz.isAgg283,Tryz.zeroValue283,Tryz.underlying281,Tryz.runUnderlying281,Tryz.sizeOf281,Tryz.isAgg281,Tryz.zeroValue281,Tryz.underlying264,Tryz.runUnderlying264,Tryz.sizeOf264,Tryz.isAgg264,Tryz.zeroValue264,Tryz.underlying133,Tryz.runUnderlying133,Tryz.sizeOf133,Tryz.isAgg133,Tryz.zeroValue133,Tryz.underlying164,Tryz.runUnderlying164,Tryz.sizeOf164,Tryz.isAgg164,Tryz.zeroValue164,Tryz.underlying361,Tryz.runUnderlying361,Tryz.sizeOf361,Tryz.isAgg361,Tryz.zeroValue361,Tryz.underlying443,Tryz.runUnderlying443,Tryz.sizeOf443,Tryz.isAgg443,Tryz.zeroValue443,Tryz.underlying445,Tryz.runUnderlying445,Tryz.sizeOf445,Tryz.isAgg445,Tryz.zeroValue445,Tryz.underlying0,Tryz.runUnderlying0,Tryz.sizeOf0,Tryz.isAgg0,Tryz.zeroValue0,Tryz.underlying3,Tryz.runUnderlying3,Tryz.sizeOf3,Tryz.isAgg3,Tryz.zeroValue3,Tryz.underlying4,Tryz.runUnderlying4,Tryz.sizeOf4,Tryz.isAgg4,Tryz.zeroValue4,Tryz.underlying9,Tryz.runUnderlying9,Tryz.sizeOf9,Tryz.isAgg9,Tryz.zeroValue9,Tryz.underlying20,Tryz.runUnderlying20,Tryz.sizeOf20,Tryz.isAgg20,Tryz.zeroValue20,Tryz.underlying21,Tryz.runUnderlying21,Tryz.sizeOf21,Tryz.isAgg21,Tryz.zeroValue21,(by kernel_rfl),(by kernel_rfl)⟩
end Go.Proofs
