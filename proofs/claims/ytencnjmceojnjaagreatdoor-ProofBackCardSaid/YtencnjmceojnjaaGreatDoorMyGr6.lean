/- A part of the proof that ProofBack returns true. -/
import Derived.Test.YtencnjmceojnjaaGreatDoorMyGr1
import Derived.Test.YtencnjmceojnjaaGreatDoorMyGr5
import Derived.Test.YtencnjmceojnjaaGreatDoorMyEv4
set_option linter.all false
namespace Go.Ev
open Go.Proofs Go.Proofs.Tryz
set_option maxRecDepth 100000
section
variable{cs:List AV}{v:AV}
mutual
def T.Iz:T->Prop
 | .node r a _ ks=>(r.length<=4611686018427387000∧∀v∈a,v.s.length<=4611686018427387000)∧Ox ks
def Ox:List T->Prop
 |[]=>True
 |t::l=>t.Iz∧Ox l
end
mutual
theorem Kv:∀t:T,t.size<=t.parts
 | .node _ a _ ks=>by
   have:=Bj ks;show eX ks+1<=1+a.length+kH ks;omega
theorem Bj:∀l:List T,eX l<=kH l
 |[]=>aj _
 |t::l=>by
  have h1:=Kv t;have a:=Bj l;show t.size+eX l<=t.parts+kH l;omega
end
mutual
theorem Nu:∀t:T,t.parts<=268435456->t.aok
 | .node _ a _ ks,h=>by
   have h:1+a.length+kH ks<=268435456:=h;exact⟨by omega,Ky ks (by omega)⟩
theorem Ky:∀l:List T,kH l<=268435456->abA l
 |[],_=>trivial
 |t::l,h=>by
  have h:t.parts+kH l<=268435456:=h;exact⟨Nu t (by omega),Ky l (by omega)⟩
end
def Oz(x:LN):Prop:=x.args.length<=268435456∧(∀v∈x.args,v.s.length<=4611686018427387000)∧x.rel.length<=4611686018427387000∧x.kids.length<=134217728
mutual
theorem KO:∀{t:T} {L d:List LN} {i:Nat},xW L t d i->t.parts<=134217728->t.Iz->(∀x∈L,Oz x)->∀x∈d,Oz x
 | .node r a u ks,L,d,i,.node (L1:=L1) (ids:=ids) f hp,c,e,h=>by
   have c:1+a.length+kH ks<=134217728:=c;obtain⟨⟨j,k⟩,l⟩:=e;have h1:=IQ f (by omega) l h;have g:=f.len;have m:=pV ks;have n:=Bj ks;rcases hp with⟨rfl,o⟩|⟨p,rfl,rfl⟩
   .exact h1
   .intro x b
    rcases bQ.1 b with b|b
    .exact h1 x b
    .rw[bY]at b
     subst b;refine⟨by show a.length<=_;omega,k,j,?_⟩;show(lU ids).length<=_;unfold lU;rw[dZ];omega
theorem IQ:∀{ts:List T} {L c:List LN} {ids:List Nat},oW L ts c ids->kH ts<=134217728->Ox ts->(∀x∈L,Oz x)->∀x∈c,Oz x
 |[],_,_,_,.nil,_,_,h=>h
 |t::ts,L,c,_,.cons h1 d,a,b,h=>by
  have a:t.parts+kH ts<=134217728:=a;exact IQ d (by omega) b.2 (KO h1 (by omega) b.1 h)
end
mutual
theorem N8:∀(t:T) (L:List LN),Ze (λ_ _=>True) L t
 | .node _ _ _ ks,L=>⟨LM ks L,λ_ _ _ _=>trivial⟩
theorem LM:∀(l:List T) (L:List LN),UL (λ_ _=>True) L l
 |[],_=>trivial
 |t::l,L=>⟨N8 t L,λL1 _ _=>LM l L1⟩
end
section
variable(W:Fe)(Y:Ge)(X:∀old,Fw old)(Z:∀old,Gw old)
include W Y X Z
theorem c6b(old:Old){t:T}(g:JO old v t)(h:t.size<=65536)(e:t.aok):
 jV prog E old 6 [v] (λd w=>∃L i,xW [] t L i∧(∃b c,w= .aO (some (b,0)) L.length c)∧UH d w L∧L.length<=t.size∧UG L):=
 c6 W Y X Z old g h e (N8 t []) λold L K σ y k f j n _ m=>
  ins_any W Y X Z old (by have:=f.YD;cases L with |nil=>exact aX rfl j|cons a l=>rw[this];exact Nat.succ_pos _) (by have:=m.le;have o:=f.len;omega) (by have:=f.YD;omega)
noncomputable def bkF(a:Nat):AF:=((XY (.ptr (OLD+a) 0)):AF)
theorem bk_head{old:Old}{y:Nat}{t:T}(Q:iI old y 0 4=some cs)(hT:mF old cs [t])(A:t.DX)(B:t.Iz):jo prog E old (bkF y) ⟨.e,5030,0⟩ (Last prog E (.bool true)):=by
 refine jo.adr (X old) (Z old) (hb1 W Y old (X old) (Z old) y cs (qy (t:=27) (z:=4) (by kernel_rfl) (by kernel_rfl) Q)) ?_ (by kernel_rfl) (by kernel_rfl) rfl (by unfold OLD;decide)
  (NV W Y X Z t.size t (aj _) A old (.agg cs) _ 5031 5030 1048576 ⟨cs,rfl,hT⟩ ?_ (NP (by kernel_rfl)) (by decide) (by decide) (by decide) (by unfold OLD;decide)) ?_
 .show(AV.fG 5031 cs&&((Nat.blt 5030 5031||Nat.ble OLD 5030)&&true))=true
  rw[AV.qI hT.aeI];rfl
 .intro k
  unfold FN;cases hk:Tr.get _ k with
  |none=>rfl
  |some o=>
   have:=BM hk;have h:(k,o)∈[(5030,AO.cells [zI 1048576] 3 false false)]:=this;rw[bY]at h;cases h;rfl
 .rintro a v m' N' l1 ⟨C,c,hN,e1,e2,hcm,g,hlt,hp⟩
  obtain⟨j,l,n,p,q,rfl⟩:=g.explode;refine⟨rfl,abB (.cells [zI C] 3 false false),rfl,rfl,λi o hi hl=>?_,?_⟩
  .have:=BM hi
   have h:(i,o)∈[(5030,AO.cells [zI C] 3 false false)]:=this;rw[bY]at h;cases h;exact⟨e1,rfl,.cells [zI 1048576] 3 false false,by kernel_rfl,trivial⟩
  by_cases h0:C<=0
  .exact jo.of (hb2 W Y a (X a) (Z a) old y cs c.rel j l n c.rule p c.kids.length q C (aB h0)) (dF rfl) λ_ _=>Dw (by kernel_rfl) rfl rfl rfl rfl (by kernel_rfl)
  obtain⟨rfl,hl'⟩:=hp (by omega);have hpa:c.parts<=1048576:=by omega
  have D:=Nu c (by omega);have hsz:=Kv c;refine jo.of (hb3 W Y a (X a) (Z a) old y cs c.rel j l n c.rule p c.kids.length q C (aH h0)) (dF rfl) λ_ _=>?_;refine jo.sub (h':=(vI (.cells [.str c.rel,.aO j l n,zI c.rule,.aO p c.kids.length q] 27 false false))) [5031] (by kernel_rfl) rfl rfl ?_;by_cases r:65536<c.size
  .refine jo.yS (X a) (Z a) (hb4 W Y a (X a) (Z a) c.rel j l n c.rule p c.kids.length q) rfl rfl (dF rfl) (c6g W Y X Z a g r (by omega)) ?_
   rintro b w l2 rfl
   have f:=JO.mono' l2 g;have F:=c8n W Y (X b) (Z b) f (by omega);rw[show cut c.size=65537 by unfold cut;omega]at F;exact jo.of (ahy W Y b (X b) (Z b) a c.rel j l n c.rule p c.kids.length q (DoesC.ofX (c7g W Y X Z b f r (by omega)) rfl rfl) F) (dF rfl) λ_ _=>Dw (by kernel_rfl) rfl rfl rfl rfl (by kernel_rfl)
  .have G:c.size<=65536:=by omega
   refine jo.yS (X a) (Z a) (hb4 W Y a (X a) (Z a) c.rel j l n c.rule p c.kids.length q) rfl rfl (dF rfl) (c6b W Y X Z a g G D) ?_
   rintro b w l2 ⟨L,i,P,⟨H,lc,rfl⟩,I,J,s⟩
   obtain⟨hwf,R,hi,htr,_⟩:=Tt P;have f:=JO.mono' l2 g;have F:=c8n W Y (X b) (Z b) f (by omega);rw[show cut c.size=c.size by unfold cut;omega]at F;refine jo.of (hb5 W Y b (X b) (Z b) a c.rel j l n c.rule p c.kids.length q H L.length lc c.size (DoesC.ofX (c7 W Y X Z b f G) rfl rfl) F (aH (by omega))) (dF rfl) λ_ _=>?_;have K:IntKind.i64.wrap ((↑L.length:Int) - 1)=(↑i:Int):=by rw[lT (by omega) (by omega)];omega
   have hU:=Na W Y X Z I P G J s (m:=(↑c.size:Int)) (by have:=qp c;omega) (by omega);rw[← K]at hU;refine jo.yS (X b) (Z b) (hb6 W Y b (X b) (Z b) c.rel j l n c.rule p c.kids.length q H L.length lc c.size) rfl rfl (dF rfl) hU ?_
   rintro d w l3 (⟨hlt3,_⟩|⟨_,uu,rfl,M⟩)
   .omega
   obtain⟨ra,rn,rc,rk,rd,rfl⟩:=M.explode;have S:=JO.mono' l3 f;have u:=UH.mono' l3 I;have N:=DoesC.ofX (c14 W Y X Z d M S D G) (by kernel_rfl) rfl;have U:Qg L:=KO P (by omega) B (λx hx=>by cases hx);have O:=c11 W Y X Z u R U (by omega);by_cases h1:1<c.size
   .have V:=Na W Y X Z u P G J s (m:=(↑c.size:Int) - 1) (by omega) (by omega)
    have h9:DC d 9 [.aO (some (H,0)) L.length lc,zI (IntKind.i64.wrap ((↑L.length:Int) - 1)),zI (IntKind.i64.wrap ((↑c.size:Int) - 1))] eH (.gI [Ya8,zI 151]) eH:=by
     rw[K,lT (z:=(↑c.size:Int) - 1) (by omega) (by omega)];refine DoesC.ofX (V.mono λo w _ h=>?_) rfl rfl;rcases h with⟨_,rfl⟩|⟨h,_⟩
     .rfl
     .omega
    exact jo.of (hb8 W Y d (X d) (Z d) b c.rel j l n c.rule p c.kids.length q H L.length lc c.size ra rn rc rk c.kids.length rd N O h9 (aB (by omega))) (dF rfl) λ_ _=>Dw (by kernel_rfl) rfl rfl rfl rfl (by kernel_rfl)
   .exact jo.of (hb7 W Y d (X d) (Z d) b c.rel j l n c.rule p c.kids.length q H L.length lc c.size ra rn rc rk c.kids.length rd N O (aH (by omega))) (dF rfl) λ_ _=>Dw (by kernel_rfl) rfl rfl rfl rfl (by kernel_rfl)
end
end
section
variable(F0:Fe)(Z:Ge)
theorem gd0(F:Fe)(FF:Ge)(rel:List UInt8)(pa:Option (Nat×Nat))(na ca:Nat)(rule:Int)(pk:Option (Nat×Nat))(kn kc:Nat):DoesS prog E (ent E 3 [kR rel pa na ca rule pk kn kc]) ⟨.e,0,0⟩ ⟨⟨3,false,none,72⟩,zO (zL (zP 0 0)) (zL (.bool false)),[.code (iQ f3 [1,0]),.code (iQ f3 [1,1])],[],false⟩ (je (eF rel pa na ca rule pk kn kc)):=
 qH F FF [1,2] (Qn 6) (by kernel_rfl)
end
end Go.Ev
