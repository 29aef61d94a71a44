/- A part of the proof that ProofGreat returns true. -/
import Derived.Test.YtngcidmhopkokaaGreatDoorMyTab
import Derived.Test.YtngcidmhopkokaaGreatDoorMyEv4
import Derived.Test.YtngcidmhopkokaaGreatDoorChecked
set_option linter.all false
namespace Go.Ev
open Go.Proofs
set_option maxRecDepth 100000
theorem R4:tH (QH Tryz.prog) ft 0 1:=adH 10 (by kernel_rfl) (by
 simp only[exs,List.forall_mem_cons];exact⟨⟨_,Tryz.func176,by kernel_rfl,(show Extern.find Tryz.f176=some Extern.BytealgCompare.compare from by kernel_rfl)⟩,
  ⟨_,Tryz.func211,by kernel_rfl,⟨.releaseMerge,by kernel_rfl,.inr (.inr (.inl rfl))⟩⟩,
  ⟨_,Tryz.func212,by kernel_rfl,(show Extern.find Tryz.f212=some (λ_=>do mark .disable;Pure.pure Extern.Race.none_)from by kernel_rfl)⟩,
  ⟨_,Tryz.func213,by kernel_rfl,(show Extern.find Tryz.f213=some (λ_=>do mark .enable;Pure.pure Extern.Race.none_)from by kernel_rfl)⟩,
  ⟨_,Tryz.func214,by kernel_rfl,⟨λ_=>Pure.pure (.bool false),by kernel_rfl,λ_=>rfl⟩⟩,
  ⟨_,Tryz.func219,by kernel_rfl,⟨.read,by kernel_rfl,.inr (.inr (.inr (.inl rfl)))⟩⟩,
  ⟨_,Tryz.func224,by kernel_rfl,⟨.acquire,by kernel_rfl,.inl rfl⟩⟩,
  ⟨_,Tryz.func227,by kernel_rfl,⟨.write,by kernel_rfl,.inr (.inr (.inr (.inr rfl)))⟩⟩,
  ⟨_,Tryz.func296,by kernel_rfl,(show Extern.find Tryz.f296=some (Extern.Atomic.update (Op.intArith .add) .u64 true)from by kernel_rfl)⟩,
  ⟨_,Tryz.func297,by kernel_rfl,(show Extern.find Tryz.f297=some (Extern.Atomic.loadT (.int .u64))from by kernel_rfl)⟩,
  ⟨_,Tryz.func299,by kernel_rfl,(show Extern.find Tryz.f299=some (Extern.Atomic.casT (.int .u64))from by kernel_rfl)⟩,
  ⟨_,Tryz.func350,by kernel_rfl,(show Extern.find Tryz.f350=some (Extern.Atomic.casT (.int .i32))from by kernel_rfl)⟩,
  ⟨_,Tryz.func352,by kernel_rfl,(show Extern.find Tryz.f352=some (Extern.Atomic.update (Op.intArith .add) .i32 true)from by kernel_rfl)⟩,
  ⟨_,Tryz.func358,by kernel_rfl,⟨Extern.AbiNoEscape.same,by kernel_rfl,λ_=>rfl⟩⟩,λ_ h=>by cases h⟩)
theorem acM:allT (QW Tryz.prog) tt 0 1=true:=by kernel_rfl
end Go.Ev
namespace Go.Proofs
abbrev Tryz.link:Go.Conc.Lib.WgLink:={ add:=153,done:=155,wait:=156,relMerge:=211,disable:=212,enable:=213,inBubble:=214,associate:=215,fatal:=216,uOr:=217,uAdd:=218,raceRead:=219,uLoad:=220,uStore:=221,disassociate:=222,semrelease:=223,acquire:=224,isAssociated:=225,uCas:=226,raceWrite:=227,semacquire:=228,orU64:=295,addU64:=296,loadU64:=297,storeU64:=298,casU64:=299,tWgP:=381,tUP:=383,tAssoc:=384,tWg:=304,tAU:=302,tU64:=288,tUint:=133,tU32:=180,tPU32:=388,tPAU:=462,tPU64:=464,tNoCopy:=179,tANoCopy:=299,tAlign64:=300 }
theorem Tryz.acG:Go.Conc.Lib.WgLib Tryz.prog Tryz.link:=
 ⟨Tryz.func153,Tryz.func155,Tryz.func156,Tryz.func211,Tryz.func212,Tryz.func213,Tryz.func214,Tryz.func215,Tryz.func216,Tryz.func217,Tryz.func218,Tryz.func219,Tryz.func220,Tryz.func221,Tryz.func222,Tryz.func223,Tryz.func224,Tryz.func225,Tryz.func226,Tryz.func227,Tryz.func228,Tryz.func295,Tryz.func296,Tryz.func297,Tryz.func298,Tryz.func299,Tryz.underlying381,Tryz.runUnderlying381,Tryz.sizeOf381,Tryz.isAgg381,Tryz.zeroValue381,Tryz.underlying383,Tryz.runUnderlying383,Tryz.sizeOf383,Tryz.isAgg383,Tryz.zeroValue383,Tryz.underlying384,Tryz.runUnderlying384,Tryz.sizeOf384,Tryz.isAgg384,Tryz.zeroValue384,Tryz.underlying304,Tryz.runUnderlying304,Tryz.sizeOf304,Tryz.isAgg304,Tryz.zeroValue304,Tryz.underlying302,Tryz.runUnderlying302,Tryz.sizeOf302,Tryz.isAgg302,Tryz.zeroValue302,Tryz.underlying288,Tryz.runUnderlying288,Tryz.sizeOf288,Tryz.isAgg288,Tryz.zeroValue288,Tryz.underlying133,Tryz.runUnderlying133,Tryz.sizeOf133,Tryz.isAgg133,Tryz.zeroValue133,Tryz.underlying180,Tryz.runUnderlying180,Tryz.sizeOf180,Tryz.isAgg180,Tryz.zeroValue180,Tryz.underlying388,Tryz.runUnderlying388,Tryz.sizeOf388,Tryz.isAgg388,Tryz.zeroValue388,Tryz.underlying462,Tryz.runUnderlying462,Tryz.sizeOf462,Tryz.isAgg462,Tryz.zeroValue462,Tryz.underlying464,Tryz.runUnderlying464,Tryz.sizeOf464,Tryz.isAgg464,Tryz.zeroValue464,Tryz.underlying0,Tryz.runUnderlying0,Tryz.sizeOf0,Tryz.isAgg0,Tryz.zeroValue0,Tryz.underlying3,Tryz.runUnderlying3,Tryz.sizeOf3,Tryz.isAgg3,Tryz.zeroValue3,Tryz.underlying4,Tryz.runUnderlying4,Tryz.sizeOf4,Tryz.isAgg4,Tryz.zeroValue4,Tryz.underlying9,Tryz.runUnderlying9,Tryz.sizeOf9,Tryz.isAgg9,Tryz.zeroValue9,Tryz.underlying20,Tryz.runUnderlying20,Tryz.sizeOf20,Tryz.isAgg20,Tryz.zeroValue20,Tryz.underlying21,Tryz.runUnderlying21,Tryz.sizeOf21,Tryz.isAgg21,Tryz.zeroValue21,(by kernel_rfl),(by kernel_rfl)⟩
end Go.Proofs
