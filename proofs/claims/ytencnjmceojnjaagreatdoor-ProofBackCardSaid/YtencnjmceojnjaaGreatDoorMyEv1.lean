/- A part of the proof that ProofBack returns true. -/
import GoSem.Claims
import Derived.Conc.Listed
import Derived.Orders
import Derived.Laws.Strings
import Derived.Laws.Sem
import Derived.IntWalk
set_option linter.all false
namespace Go.Ev
set_option maxRecDepth 100000
def ah := @if_neg
def aj := @Nat.le_refl
def au := @Nat.eq_of_beq_eq_true
def av := @List.not_mem_nil
def ay := @List.mem_cons
def aA := @List.getElem?_eq_some_iff
def aB := @decide_eq_true
def aC := @if_pos
def aF := @Bool.and_eq_true
def aH := @decide_eq_false
def aI := @List.getElem?_eq_getElem
def aJ := @Nat.le_of_ble_eq_true
def aN := @Option.some.inj
def aP := @Option.map_eq_some_iff
def aS := @Nat.le_trans
def aT := @Nat.lt_or_ge
def aU := @or_false
def aV := @Array.getElem?_eq_some_iff
def aW := @List.getElem?_append_left
def aX := @absurd
def aY := @List.mem_cons_of_mem
def bg := @Array.getD_eq_getD_getElem?
def bn := @List.drop_eq_getElem_cons
def bC := @List.length_append
def bD := @List.getElem?_append_right
def bF := @Nat.ble_eq_true_of_le
def bG := @cond_true
def bH := @cond_false
def bI := @Array.getElem?_toList
def bJ := @Nat.mul_one
def bK := @Nat.zero_le
def bM := @List.length_eq_zero_iff
def bP := @List.mem_of_getElem?
def bQ := @List.mem_append
def bW := @Array.getElem?_setIfInBounds_ne
def bY := @List.mem_singleton
def bZ := @Int.toNat_natCast
def cZ := @Nat.lt_succ_self
def dh := @Option.some.injEq
def dA := @List.mem_cons_self
def dB := @Nat.blt_eq
def dD := @List.append_nil
def dH := @Array.toList_inj
def dI := @Array.getElem?_eq_getElem
def dK := @List.nodup_cons
def dM := @List.cons.injEq
def dN := @of_decide_eq_true
def dP := @Array.toList_append
def dZ := @List.length_map
def eG := @List.length_take
def eP := @List.take_of_length_le
def fA := @Nat.zero_add
def fB := @List.length_cons
def fC := @List.append_assoc
def fM := @List.all_eq_true
def fP := @List.getElem?_map
def gu := @congrArg
def gB := @List.drop_zero
def gG := @List.drop_eq_nil_of_le
def gJ := @Bool.false_eq_true
def gK := @Array.empty_append
def gU := @List.mem_map
def gV := @Nat.not_lt_zero
def gY := @Nat.le_add_right
def iq := @List.mem_append_left
def iD := @Nat.le_of_lt
def iE := @List.nil_append
def iF := @List.length_drop
def iH := @List.mem_append_right
def iM := @and_true
def iO := @List.mem_range
def iP := @List.getElem?_take
def iR := @List.mem_filter
def iT := @List.length_set
def iU := @Bool.or_eq_true
def iW := @List.cons_append
def jl := @Nat.zero_mul
def jm := @Nat.zero_lt_one
def jv := @Nat.lt_of_lt_of_le
def jw := @Nat.eq_zero_or_pos
def jy := @Array.getElem?_map
def jE := @List.getElem?_cons_succ
def jL := @Nat.lt_irrefl
def jW := @decide_eq_true_eq
def jX := @Bool.or_true
def kD := @Option.map_some
def kK := @Nat.eq_or_lt_of_le
def kL := @List.getElem?_drop
def kN := @Array.getElem?_setIfInBounds_self_of_lt
def kQ := @Int.le_of_eq
def kY := @List.foldl_cons
def lG := @Array.getElem?_push
def mg := @List.take_append_drop
def mD := @List.getElem?_eq_none
def mQ := @List.getElem?_eq_none_iff
def nO := @Nat.add_sub_cancel_left
def nX := @Nat.add_mul
def oH := @beq_iff_eq
def oI := @Nat.mul_comm
def oJ := @List.pairwise_cons
def oK := @Array.foldl_toList
def oL := @Array.ext_getElem?
def oO := @List.map_append
def oP := @Array.size_push
def oV := @Nat.add_assoc
def ql := @List.mem_iff_getElem
def qE := @Option.getD_some
def qF := @Nat.le_of_not_lt
def qG := @Array.mem_append
def qV := @Prod.mk.injEq
def qY := @Bool.eq_iff_iff
def rQ := @decide_eq_false_iff_not
def rU := @Prod.mk.inj
def sV := @Int.lt_trichotomy
def sW := @Int.le_of_lt
def tJ := @List.set_append_right
def uw := @List.filter_cons
def wD := @Nat.sub_self
def yH := @List.flatMap_cons
def yT := @List.map_cons
def zJ := @List.range'_succ
def zK := @List.pairwise_singleton
def UM := @List.pairwise_append
def UW := @List.length_pos_iff
def Zf := @List.mem_flatMap
def aiC := @List.length_range
def aiD := @Int.tmod_eq_emod_of_nonneg
inductive AV where
 |any
 |one
 |bool (b:Bool)
 |int (k:IntKind) (n:Int)
 |str (s:List UInt8)
 |pO
 |ptr (id off:Nat)
 |aQ
 |emp
 |sl (id off len:Nat) (cap:Option Nat)
 |aO (a:Option (Nat×Nat)) (n c:Nat)
 |pF
 |map (id:Nat)
 |um
 |fn (f:FuncId) (first cap:List AV)
 |yield (id:Nat)
 |uj
 |iface (t:TypeId) (v:AV)
 |agg (l:List AV)
 |gI (l:List AV)
 deriving Inhabited
inductive Tr(α:Type) where
 |e
 |n (l:Tr α) (v:Option α) (r:Tr α)
 deriving Inhabited
noncomputable def Tr.get{α:Type}(t:Tr α):Nat->Option α:=
 @Tr.rec α (λ_=>Nat->Option α) (λ_=>none)
  (λ_ v _ a b i=>@Bool.rec (λ_=>Option α) (@Bool.rec (λ_=>Option α) (b (Nat.sub (Nat.div i 2) 1)) (a (Nat.div i 2)) (Nat.beq (Nat.mod i 2) 1)) v (Nat.beq i 0)) t
noncomputable def Tr.DT{α:Type}(x:α)(f:Nat):Tr α->Nat->Tr α:=
 @Nat.rec (λ_=>Tr α->Nat->Tr α) (λ_ _=> .e) (λ_ a t i=>@Tr.rec α (λ_=>Tr α)
  (@Bool.rec (λ_=>Tr α) (@Bool.rec (λ_=>Tr α) (.n .e none (a .e (Nat.sub (Nat.div i 2) 1))) (.n (a .e (Nat.div i 2)) none .e) (Nat.beq (Nat.mod i 2) 1)) (.n .e (some x) .e) (Nat.beq i 0))
  (λl v r _ _=>@Bool.rec (λ_=>Tr α) (@Bool.rec (λ_=>Tr α) (.n l v (a r (Nat.sub (Nat.div i 2) 1))) (.n (a l (Nat.div i 2)) v r) (Nat.beq (Nat.mod i 2) 1)) (.n l (some x) r) (Nat.beq i 0)) t) f
noncomputable def Tr.set{α:Type}(t:Tr α)(i:Nat)(x:α):Tr α:=Tr.DT x (Nat.succ (Nat.log2 (Nat.succ i))) t i
structure AD where
 f:AV
 args:List AV
 deriving Inhabited
structure AE where
 key:AV
 val:AV
 born:Nat
 deriving Inhabited
inductive AO where
 |dead
 |cells (vs:List AV) (elem:TypeId) (grow:Bool) (fz:Bool)
 |map (es:List AE) (clock:Nat)
 |KE (m:Option Nat) (since:Nat) (seen:List Nat) (stepped:Nat)
 |sit (s:List UInt8) (pos:Nat)
 |loop (st:LoopState) (pending:Option Code) (fn:FuncId) (nt:Nat) (tm:Tr AV) (params:List Tmp) (assign body:Code) (defers:Nat)
 |yU (none_:Bool)
 deriving Inhabited
structure AH where
 tr:Tr AO
 nx:Nat
 df:Nat
 deriving Inhabited
noncomputable def AH.obj(h:AH)(id:Nat):AO:=match h.tr.get id with |some o=>o|none=> .dead
noncomputable def AH.put(h:AH)(id:Nat)(o:AO):AH:=match h with |⟨tr,nx,df⟩=>⟨tr.set id o,nx,df⟩
noncomputable def AH.new(h:AH)(o:AO):AH:=match h with |⟨tr,nx,df⟩=>⟨tr.set nx o,Nat.succ nx,df⟩
inductive TD where
 |bool|int (k:IntKind)|str|ptr (e:TypeId)|slice (e:TypeId)|map (k e:TypeId)|func|iface (empty:Bool)
 |struct (fs:List (Nat×Nat×TypeId))
 |array (n:Nat) (e:TypeId)
 |Oq|tuple
 deriving Inhabited
structure TI where
 d:TD
 size:Nat
 bytes:Nat
 zero:List AV
 deriving Inhabited
def TI.isAgg(t:TI):Bool:=match t.d with | .struct _| .array _ _=>true|_=>false
inductive EX where
 |wW|Ak|race|YR|en|I7 (k:IntKind)|I5 (k:IntKind)|EG (k:IntKind)|Ez|zl|overlaps|stop
 deriving Inhabited,DecidableEq
structure FI where
 body:Option Code
 ntmps:Nat
 results:List ResultVar
 ext:EX
 deriving Inhabited
structure Env where
 tt:Tr TI
 ft:Tr FI
 RU:List (TypeId×String×FuncId)
 lies:List (TypeId×TypeId)
 flat:List (TypeId×List Nat)
 ad4:List FuncId
 small:List FuncId
 inl:List FuncId
 old:Nat->Nat->Option AV:=λ_ _=>none
 peek:Bool:=false
noncomputable def Env.blind(E:Env):Env:={ E with old:=λ_ _=>none,peek:=false }
def OLD:Nat:=1152921504606846976
noncomputable def Env.d(E:Env)(t:TypeId):Option TD:=(E.tt.get t).map (·.d)
inductive AI where
 |code (c:Code)
 |inBlock (id:Nat)
 |inLoop (body:Code)
 |inScope (body:Code)
 |inRegion (ops:Array Oper) (todo:List Oper)
 |inRangeFunc (id:Nat)
 |endRangeFunc (id:Nat)
 |beginRound
 |uz (ops:Array Oper) (n:Nat)
 deriving Inhabited
structure AX where
 fn:FuncId
 deferred:Bool
 round:Option Nat
 nt:Nat
 deriving Inhabited
structure AF where
 x:AX
 tm:Tr AV
 todo:List AI
 ds:List AD
 ret:Bool
 deriving Inhabited
def iw:AV:= .gI []
def uV:Value->AV
 | .bool b=> .bool b
 | .int k n=> .int k n
 | .string s=> .str s.data.toList
 | .pointer none=> .pO
 | .slice none 0 0=> .aQ
 | .map none=> .pF
 | .nilFunc=> .um
 | .nilIface=> .uj
 | .func (.func f) a b=>cond (a.isEmpty&&b.isEmpty) (.fn f [] []) .any
 | .tuple a=>cond a.isEmpty (.gI []) .any
 |_=> .any
def ae4:Value->AV
 | .agg cs=> .agg (cs.toList.map uV)
 |v=>uV v
noncomputable def ev(tm:Tr AV)(x:Operand):AV:=
 @Operand.rec (λ_=>Tr AV->AV) (λt tm=>match tm.get t with |some v=>v|none=> .any) (λv _=>ae4 v) (λ_ _=> .any) (λg _=> .fn g [] []) x tm
noncomputable def evs(tm:Tr AV):List Operand->List AV
 |[]=>[]
 |x::l=>ev tm x::evs tm l
noncomputable def UO(tm:Tr AV):List (Nat×Operand)->List (Nat×AV)
 |[]=>[]
 |p::l=>(p.1,ev tm p.2)::UO tm l
noncomputable def PO(tm:Tr AV):Option Operand->Option AV
 |none=>none
 |some x=>some (ev tm x)
def AV.cells:AV->List AV
 | .agg l=>l
 |v=>[v]
def setAt(l:List AV)(off:Nat):List AV->List AV
 |[]=>l
 |v::vs=>setAt (l.set off v) (off+1) vs
def rep(n:Nat)(z:List AV):List AV:=match n with |0=>[]|n+1=>z++rep n z
def AV.isAny:AV->Bool| .any=>true|_=>false
def zq(k k':IntKind):Bool:=Nat.beq k.ctorIdx k'.ctorIdx
def UQ:AV->AV->Option Bool
 | .bool a,.bool b=>some (a==b)
 | .int k a,.int k' b=>cond (zq k k') (some (a==b)) none
 | .str a,.str b=>some (a==b)
 |_,_=>none
def D6:List AV->List AV->Option Bool
 |[],[]=>some true
 |a::l,b::m=>match UQ a b with
  |none=>none
  |some false=>match D6 l m with |none=>none|some _=>some false
  |some true=>D6 l m
 |_,_=>none
def eqK:AV->AV->Option Bool
 | .agg l,.agg m=>D6 l m
 |a,b=>UQ a b
def AL(k:AV):List AE->Nat->Option (Option (Nat×AV))
 |[],_=>some none
 |e::es,i=>match eqK k e.key with
  |none=>none
  |some true=>some (some (i,e.val))
  |some false=>AL k es (i+1)
inductive OR where
 |val (v:AV) (h:AH)
 |call (g:FuncId) (args:List AV)
 |yield (id:Nat) (args:List AV)
 |yU (d:AD)
 |alts (l:List (AV×AH))
 |stop
def int64(n:Int):AV:= .int .i64 n
def takeN(l:List AV)(off n:Nat):Option (List AV):=
 let r:=(l.drop off).take n
 cond (Nat.beq r.length n) (some r) none
noncomputable def nP(E:Env):AV->AV
 | .aO none _ _=> .aQ
 | .aO (some p) n c=>cond E.peek (cond (Nat.beq n 0) .emp (.sl (OLD+p.1) p.2 n (some c))) .any
 |v=>v
def unB:AV->AV
 | .aO none _ _=> .aQ
 |v=>v
def iI(old:Nat->Nat->Option AV)(b:Nat):Nat->Nat->Option (List AV)
 |_,0=>some []
 |off,n+1=>match old b off,iI old b (off+1) n with
  |some v,some r=>some (v::r)
  |_,_=>none
noncomputable def jA(E:Env)(h:AH)(id off n:Nat):Option (List AV):=
 cond (Nat.ble OLD id) (iI E.old (id - OLD) off n) (match h.obj id with
 | .cells vs _ _ _=>takeN vs off n
 |_=>none)
noncomputable def loadT(E:Env)(h:AH)(t:TypeId)(id off:Nat):Option AV:=
 match E.tt.get t with
 |none=>none
 |some ti=>cond ti.isAgg ((jA E h id off ti.size).map .agg)
  (cond (Nat.ble OLD id) (E.old (id - OLD) off) (match h.obj id with | .cells vs _ _ _=>vs[off]? |_=>none))
def vO:List AV->Bool
 |[]=>true
 |v::l=>(match v with | .any| .agg _| .gI _=>false|_=>true)&&vO l
def ZM:Value->Bool
 | .agg _| .tuple _=>false
 |_=>true
noncomputable def fE(h:AH)(id off:Nat)(vs:List AV):Option AH:=
 match h.obj id with
 | .cells l e g false=>cond (Nat.ble (off+vs.length) l.length&&vO vs) (some (h.put id (.cells (setAt l off vs) e g false))) none
 |_=>none
def uT:List Nat->List AV->Bool
 |[],[]=>true
 |k::ks,a::l=>(match a with | .bool _=>Nat.beq k 0| .int _ _=>Nat.beq k 1| .str _=>Nat.beq k 2|_=>false)&&uT ks l
 |_,_=>false
def wZ(E:Env)(t:TypeId)(l:List AV):Bool:=E.flat.any λp=>Nat.beq p.1 t&&uT p.2 l
noncomputable def KL(E:Env)(t:TypeId)(k:AV):Bool:=
 match E.d t with
 |some .bool=>(match k with | .bool _=>true|_=>false)
 |some (.int _)=>(match k with | .int _ _=>true|_=>false)
 |some .str=>(match k with | .str _=>true|_=>false)
 |some (.struct _)=>(match k with | .agg l=>wZ E t l|_=>false)
 |some (.array _ _)=>(match k with | .agg l=>wZ E t l|_=>false)
 |_=>false
noncomputable def NR(E:Env)(t:TypeId)(x y:AV):Option Bool:=
 match E.d t with
 |some .bool=>match x,y with
  | .bool a,.bool b=>some (a==b)
  |_,_=>none
 |some (.ptr e)=>match x,y with
  | .pO,.pO=>some true
  | .pO,.ptr _ _| .ptr _ _,.pO=>some false
  | .ptr i a,.ptr j b=>cond (Nat.beq i j&&(match E.tt.get e with |some ti=> !Nat.beq ti.size 0|none=>false)) (some (Nat.beq a b)) none
  |_,_=>none
 |some (.slice _)=>match x,y with
  | .aQ,.aQ=>some true
  | .aQ,.sl _ _ _ _| .sl _ _ _ _,.aQ=>some false
  | .aQ,.aO (some _) _ _| .aO (some _) _ _,.aQ=>some false
  |_,_=>none
 |some (.map _ _)=>match x,y with
  | .pF,.pF=>some true
  | .pF,.map _| .map _,.pF=>some false
  |_,_=>none
 |some .func=>match x,y with
  | .um,.um=>some true
  | .um,.fn _ _ _| .fn _ _ _,.um=>some false
  |_,_=>none
 |some (.iface emp)=>match x,y with
  | .uj,.iface _ _| .iface _ _,.uj=>some false
  |_,_=>none
 |some (.struct _)=>match x,y with
  | .agg a,.agg b=>cond (wZ E t a) (D6 a b) none
  |_,_=>none
 |some (.array _ _)=>match x,y with
  | .agg a,.agg b=>cond (wZ E t a) (D6 a b) none
  |_,_=>none
 |_=>none
def Td(op:BinOp)(k:IntKind)(a b:Int):Option AV:=
 (match op with
 | .add=>λk a b=>some (.int k (k.wrap (a+b)))
 | .sub=>λk a b=>some (.int k (k.wrap (a - b)))
 | .mul=>λk a b=>some (.int k (k.wrap (a*b)))
 | .quo=>λk a b=>cond (b==0) none (some (.int k (k.wrap (a.tdiv b))))
 | .rem=>λk a b=>cond (b==0) none (some (.int k (a.tmod b)))
 | .and=>λk a b=>some (.int k (k.wrap (BitVec.ofInt k.bits a &&& BitVec.ofInt k.bits b).toNat))
 | .or=>λk a b=>some (.int k (k.wrap (BitVec.ofInt k.bits a ||| BitVec.ofInt k.bits b).toNat))
 | .xor=>λk a b=>some (.int k (k.wrap (BitVec.ofInt k.bits a ^^^ BitVec.ofInt k.bits b).toNat))
 | .andNot=>λk a b=>some (.int k (k.wrap (BitVec.ofInt k.bits a &&& ~~~BitVec.ofInt k.bits b).toNat))
 | .lss=>λ_ a b=>some (.bool (decide (a<b)))
 | .leq=>λ_ a b=>some (.bool (decide (a<=b)))
 | .gtr=>λ_ a b=>some (.bool (decide (a>b)))
 | .geq=>λ_ a b=>some (.bool (decide (a≥b)))
 | .eql=>λ_ a b=>some (.bool (a==b))
 | .neq=>λ_ a b=>some (.bool (a !=b))
 |_=>λ_ _ _=>none:IntKind->Int->Int->Option AV) k a b
def Pv(op:BinOp)(k:IntKind)(a:Int)(k':IntKind)(b:Int):Option AV:=
 (match op with
 | .shl=>λk a _ b=>cond (decide (b<0)) none (some (.int k (k.wrap (a*2 ^ (min b.toNat k.bits)))))
 | .shr=>λk a _ b=>cond (decide (b<0)) none (some (.int k (a.fdiv (2 ^ (min b.toNat k.bits)))))
 |op=>λk a k' b=>cond (zq k k') (Td op k a b) none:IntKind->Int->IntKind->Int->Option AV) k a k' b
def U2(op:BinOp)(a b:List UInt8):Option AV:=
 match op with
 | .add=>cond (decide (a.length+b.length<4611686018427387904)) (some (.str (a++b))) none
 | .eql=>some (.bool (a==b))
 | .neq=>some (.bool (!(a==b)))
 | .lss=>some (.bool (Op.bytesLess a b))
 | .leq=>some (.bool (Op.bytesLess a b||a==b))
 | .gtr=>some (.bool (!(Op.bytesLess a b||a==b)))
 | .geq=>some (.bool (!(Op.bytesLess a b)))
 |_=>none
def asInt:AV->Option (IntKind×Int)| .int k n=>some (k,n)|_=>none
def NZ:AV->Option (List UInt8)| .str s=>some s|_=>none
noncomputable def adX(E:Env)(op:BinOp)(t:TypeId)(x y:AV):Option AV:=
 match op with
 | .eql=>(NR E t x y).map .bool
 | .neq=>(NR E t x y).map λb=> .bool (!b)
 |_=>none
noncomputable def Ue(E:Env)(op:BinOp)(t:TypeId)(x y:AV):Option AV:=
 match asInt x with
 |some (k,a)=>(match asInt y with
  |some (k',b)=>Pv op k a k' b
  |none=>none)
 |none=>match NZ x with
  |some a=>(match NZ y with
   |some b=>U2 op a b
   |none=>none)
  |none=>adX E op t x y
def Yv:Operand->Bool| .const .nilIface=>true|_=>false
noncomputable def abw(E:Env)(op:BinOp)(t:TypeId)(x y:Operand)(a b:AV):Option AV:=
 cond (Yv x||Yv y) (match a with
  | .uj=>(match b with
    | .uj=>(match E.d t with
      |some (.iface _)=>(match op with | .eql=>some (.bool true)| .neq=>some (.bool false)|_=>none)
      |_=>none)
    |_=>Ue E op t a b)
  |_=>Ue E op t a b) (Ue E op t a b)
def unA(op:UnOp)(x:AV):Option AV:=
 match op,x with
 | .not,.bool b=>some (.bool (!b))
 | .neg,.int k n=>some (.int k (k.wrap (0 - n)))
 | .xor,.int k n=>some (.int k (k.wrap (BitVec.ofInt k.bits (cond k.signed (-1) k.max) ^^^ BitVec.ofInt k.bits n).toNat))
 |_,_=>none
def bytesOf(s:List UInt8):List AV:=s.map λb=> .int .u8 b.toNat
def strOf:List AV->Option (List UInt8)
 |[]=>some []
 | .int .u8 n::l=>match strOf l with |some r=>some (UInt8.ofNat n.toNat::r)|none=>none
 |_=>none
noncomputable def IY(E:Env)(s d:TypeId)(x:AV)(h:AH):Option OR:=
 match E.d s,E.d d,x with
 |some (.ptr e),some .Oq,.ptr id off=>
  match h.obj id,E.tt.get e with
  | .cells vs _ _ _,some ti=>cond (!Nat.beq ti.size 0&&Nat.blt off vs.length) (some (.val (.ptr id off) h)) none
  |_,_=>none
 |some .Oq,some (.ptr u),.ptr id 0=>
  match h.obj id,E.tt.get u with
  | .cells vs el false _,some ti=>(match E.tt.get el with
    |some b=>cond (!Nat.beq ti.size 0&& !Nat.beq b.size 0&&Nat.beq vs.length b.size&&E.lies.any (λp=>Nat.beq p.1 el&&Nat.beq p.2 u)) (some (.val (.ptr id 0) h)) none
    |none=>none)
  |_,_=>none
 |some (.slice e),some .str,.aQ=>(match E.d e with
  |some (.int .u8)=>some (.val (.str []) h)
  |_=>none)
 |some (.slice e),some .str,.sl id off len _=>(match E.d e with
  |some (.int .u8)=>(match jA E h id off len with
   |some vs=>(strOf vs).map λr=> .val (.str r) h
   |none=>none)
  |_=>none)
 |some .str,some (.slice e),.str a=>
  match E.tt.get e with
  |some ti=>(match ti.d with
   | .int .u8=>cond (Nat.beq ti.size 1) (some (.val (.sl h.nx 0 a.length none) (h.new (.cells (bytesOf a) e true false)))) none
   |_=>none)
  |none=>none
 |_,_,_=>none
noncomputable def Me(E:Env)(h:AH)(size:Nat):AV->Option (Nat×List AV)
 | .aQ=>some (0,[])
 | .emp=>some (0,[])
 | .sl id off len _=>(jA E h id off (len*size)).map λc=>(len,c)
 | .str s=>cond (Nat.beq size 1) (some (s.length,bytesOf s)) none
 |_=>none
def VJ(s:AV)(n b:Nat):Bool:=match s with | .aQ=>Nat.blt 140737488355328 (n*b)|_=>Nat.blt 268435456 n
noncomputable def l7(E:Env)(h:AH)(ts tx:TypeId)(s x:AV):Option (AV×AH):=
 match E.tt.get ts,E.tt.get tx with
 |some { d:= .slice e,.. },some f=>
  match E.tt.get e with
  |none=>none
  |some a=>
   cond (match f.d with | .int _=>true|_=>Nat.beq a.bytes 0||Nat.beq a.size 0||Nat.blt 4096 a.bytes) none <|
   match Me E h a.size x with
   |none=>none
   |some (n,c)=>
    cond (VJ s n a.bytes) none <|
    match s with
    | .aQ=>cond (Nat.beq n 0) (some (.aQ,h)) (some (.sl h.nx 0 n none,h.new (.cells c e true false)))
    | .sl id off len (some cap)=>
      cond (Nat.ble (len+n) cap)
       ((fE h id (off+len*a.size) c).map λh'=>(.sl id off (len+n) (some cap),h'))
       (cond (Nat.blt 268435456 (len+cap)) none <| (jA E h id off (len*a.size)).map λold=>(.sl h.nx 0 (len+n) none,h.new (.cells (old++c) e true false)))
    | .sl id 0 len none=>
      cond (Nat.blt 268435456 len) none <|
      match h.obj id with
      | .cells vs el true false=>
        cond (Nat.beq el e&&Nat.ble (len*a.size) vs.length&&vO c&&(match x with | .sl b _ _ _=> !Nat.beq id b|_=>true))
         (some (.sl h.nx 0 (len+n) none,(h.put id .dead).new (.cells (vs.take (len*a.size)++c) e true false))) none
      |_=>none
    |_=>none
 |_,_=>none
noncomputable def N7(E:Env)(h:AH)(ts tx:TypeId)(s:AV)(n:Int):Option (AV×AH):=
 match s with
 | .sl id off len (some cap)=>
   match E.tt.get ts,E.tt.get tx with
   |some { d:= .slice e,.. },some { d:= .int .i64,.. }=>
    match E.tt.get e with
    |none=>none
    |some a=>
     cond (Nat.beq a.bytes 0||Nat.blt 4096 a.bytes|| !decide (0<=n)|| !decide (n<=268435456)||Nat.blt 268435456 (len+cap)||Nat.ble (len+n.toNat) cap||Nat.beq (n.toNat*a.size) 0) none
      ((jA E h id off (len*a.size)).map λold=>(.sl h.nx 0 (len+n.toNat) none,h.new (.cells (old++rep n.toNat a.zero) e true false)))
   |_,_=>none
 |_=>none
noncomputable def abz(E:Env)(h:AH)(ts tx:TypeId)(s:AV):AV->Option (AV×AH)
 | .int .i64 n=>N7 E h ts tx s n
 |x=>l7 E h ts tx s (nP E x)
noncomputable def IW(E:Env)(h:AH)(td:TypeId)(d s:AV):Option (AV×AH):=
 match E.tt.get td with
 |some { d:= .slice e,.. }=>
  match E.tt.get e with
  |none=>none
  |some g=>
   match d,s with
   | .sl id off len _,.sl f a b _=>
     let n:=Nat.min b len
     match jA E h f a (n*g.size)with
     |some c=>(fE h id off c).map λh'=>(int64 n,h')
     |none=>none
   | .sl id off len _,.str s=>
     let n:=Nat.min s.length len
     (fE h id off (bytesOf (s.take n))).map λh'=>(int64 n,h')
   | .sl _ _ _ _,.aQ| .aQ,.aQ| .aQ,.sl _ _ _ _=>some (int64 0,h)
   |_,_=>none
 |_=>none
def oC(lo hi:Nat)(x:AV):Option Nat:=
 match x with
 | .int _ i=>cond (decide (lo<=i∧i<=hi)) (some i.toNat) none
 |_=>none
def AU(x:Option AV)(hi a:Nat):Option Nat:=match x with |some v=>oC 0 hi v|none=>some a
def Zi(hi:Option AV)(m len:Nat)(mx:Bool):Option Nat:=match hi with |some v=>oC 0 m v|none=>cond mx none (some len)
def rX(id off size len m:Nat)(lo hi:Option AV)(mx:Bool):Option AV:=
 match Zi hi m len mx with
 |none=>none
 |some h=>match AU lo h 0 with
  |none=>none
  |some l=>some (.sl id (cond (Nat.beq m l) off (off+l*size)) (h - l) (some (m - l)))
def zU(id off size len:Nat)(lo hi:Option AV):Option AV:=
 match Zi hi len len false with
 |none=>none
 |some h=>match AU lo h 0 with
  |none=>none
  |some l=>cond (Nat.beq l 0) (some (.sl id off h none)) (cond (Nat.blt l len) (some (.sl id (off+l*size) (h - l) none)) (some .emp))
def QU(s:List UInt8)(lo hi:Option AV):Option AV:=
 match Zi hi s.length s.length false with
 |none=>none
 |some h=>match AU lo h 0 with
  |none=>none
  |some l=>some (.str ((s.take h).drop l))
noncomputable def gQ(E:Env)(t:TypeId)(x:AV)(lo hi mx:Option AV):Option AV:=
 match E.d t,x with
 |some .str,.str s=>cond mx.isSome none (QU s lo hi)
 |some (.slice e),.aQ=>match E.tt.get e,AU mx 0 0,Zi hi 0 0 mx.isSome,AU lo 0 0 with
  |some _,some _,some _,some _=>some .aQ
  |_,_,_,_=>none
 |some (.array n e),.ptr id off=>match E.tt.get e,AU mx n n with
  |some a,some m=>rX id off a.size n m lo hi mx.isSome
  |_,_=>none
 |some (.slice e),.sl id off len (some c)=>match E.tt.get e,AU mx c c with
  |some a,some m=>rX id off a.size len m lo hi mx.isSome
  |_,_=>none
 |some (.slice e),.sl id off len none=>match E.tt.get e,mx with
  |some a,none=>zU id off a.size len lo hi
  |some a,some v=>match oC 0 len v with
   |some m=>rX id off a.size len m lo hi true
   |none=>none
  |_,_=>none
 |_,_=>none
def BJ(Yb:Nat->Option (Nat×Nat)):List AV->List (Nat×AV)->Option (List AV)
 |l,[]=>some l
 |l,p::ps=>match Yb p.1 with
  |none=>none
  |some q=>cond p.2.isAny none
   (cond (Nat.beq p.2.cells.length q.2&&Nat.ble (q.1+q.2) l.length) (BJ Yb (setAt l q.1 p.2.cells) ps) none)
def TI.zeroV(t:TI):AV:=cond t.isAgg (.agg t.zero) (t.zero.getD 0 .any)
noncomputable def Ls(E:Env)(t:TypeId)(ps:List (Nat×AV)):Option AV:=
 match E.tt.get t with
 |none=>none
 |some ti=>match ti.d with
  | .struct b=>(BJ (λi=>(b[i]?).map λx=>(x.1,x.2.1)) ti.zero ps).map .agg
  | .array _ e=>match E.tt.get e with
    |some a=>(BJ (λi=>some (i*a.size,a.size)) ti.zero ps).map .agg
    |none=>none
  |_=>none
def zi:AV->Option AV
 | .ptr i o=>some (.ptr i o)
 | .fn g a b=>some (.fn g a b)
 | .iface t v=>some (.iface t v)
 | .yield i=>some (.yield i)
 |_=>none
noncomputable def wX(E:Env)(t:TypeId)(x:AV):Option AV:=
 match E.d t with
 |none=>none
 |some (.iface _)=>none
 |some _=>some (.iface t x)
noncomputable def xk(E:Env)(s:TypeId)(x:AV)(i:Nat):Option AV:=
 match E.d s,x with
 |some (.struct a),.ptr id off=>match a[i]? with
  |some (o,size,_)=>cond (Nat.beq size 0) none (some (.ptr id (off+o)))
  |none=>none
 |_,_=>none
noncomputable def Xa(E:Env)(u:TypeId)(l:List AV)(o:Nat):Option AV:=
 match E.tt.get u with
 |none=>none
 |some ti=>cond ti.isAgg ((takeN l o ti.size).map .agg) (l[o]?)
noncomputable def KT(E:Env)(t:TypeId)(x:AV)(i:Nat):Option AV:=
 match E.d t,x with
 |some (.struct a),.agg l=>match a[i]? with
  |some (o,_,u)=>Xa E u l o
  |none=>none
 |_,_=>none
noncomputable def aZ(E:Env)(t:TypeId)(x i:AV):Option AV:=
 match E.d t,x,i with
 |some (.slice e),.sl id off len _,.int _ n=>match E.tt.get e with
  |some a=>cond (decide (0<=n∧n<len)) (some (.ptr id (off+n.toNat*a.size))) none
  |none=>none
 |some (.array len e),.ptr id off,.int _ n=>match E.tt.get e with
  |some a=>cond (decide (0<=n∧n<len)) (some (.ptr id (off+n.toNat*a.size))) none
  |none=>none
 |_,_,_=>none
noncomputable def Ag(E:Env)(t:TypeId)(x i:AV):Option AV:=
 match E.d t,x,i with
 |some .str,.str s,.int _ n=>cond (decide (0<=n)) ((s[n.toNat]?).map λb=> .int .u8 b.toNat) none
 |some (.array len e),.agg l,.int _ n=>match E.tt.get e with
  |some a=>cond (decide (0<=n∧n<len)) (Xa E e l (n.toNat*a.size)) none
  |none=>none
 |_,_,_=>none
noncomputable def RY(h:AH):AV->Option (List AE)
 | .pF=>some []
 | .map id=>match h.obj id with | .map es _=>some es|_=>none
 |_=>none
noncomputable def yx(E:Env)(h:AH)(t:TypeId)(x i:AV)(ok:Bool):Option AV:=
 match E.d t with
 |some (.map b e)=>match E.tt.get e,cond (KL E b i) (RY h x) none with
  |some a,some es=>match AL i es 0 with
   |none=>none
   |some (some (_,v))=>some (cond ok (.gI [v,.bool true]) v)
   |some none=>some (cond ok (.gI [a.zeroV,.bool false]) a.zeroV)
  |_,_=>none
 |_=>none
noncomputable def BN(h:AH):AV->Option AV
 | .ptr id 0=>match h.obj id with
   | .KE (some m) _ seen a=>match h.obj m,seen.getLast? with
     | .map es b,some st=>cond (Nat.beq b a) ((es.find? λe=>Nat.beq e.born st).map λe=> .gI [e.key,e.val]) none
     |_,_=>none
   |_=>none
 |_=>none
def BL(x:AV)(i:Nat):Option AV:=
 match x with
 | .gI l=>l[i]?
 |_=>none
noncomputable def Gi(E:Env)(t:TypeId)(x:AV)(ok:Bool):Option AV:=
 match E.tt.get t,x with
 |some ti,.iface u v=>match ti.d with
  | .iface _=>none
  |_=>cond (Nat.beq u t) (some (cond ok (.gI [v,.bool true]) v)) (cond ok (some (.gI [ti.zeroV,.bool false])) none)
 |_,_=>none
noncomputable def YE(E:Env)(h:AH)(t:TypeId)(x:AV):Option AV:=
 match E.d t,x with
 |some .str,.str s=>some (int64 s.length)
 |some (.array n _),_=>some (int64 n)
 |some (.slice _),.aQ=>some (int64 0)
 |some (.slice _),.emp=>some (int64 0)
 |some (.slice _),.aO _ n _=>some (int64 n)
 |some (.slice _),.sl _ _ n _=>some (int64 n)
 |some (.map _ _),.pF=>some (int64 0)
 |some (.map _ _),.map id=>match h.obj id with | .map es _=>some (int64 es.length)|_=>none
 |_,_=>none
noncomputable def wU(E:Env)(h:AH)(b:Builtin)(args:List AV)(ts:List TypeId):Option AV:=
 match b with
 | .len=>match args,ts with |[x],[t]=>YE E h t x|_,_=>none
 | .max=>match args with |[.int k a,.int k' b]=>cond (k==k') (some (.int k (cond (decide (b>a)) b a))) none|_=>none
 | .min=>match args with |[.int k a,.int k' b]=>cond (k==k') (some (.int k (cond (decide (b<a)) b a))) none|_=>none
 | .unsafeSliceData=>match args with |[.sl id off (_+1) _]=>some (.ptr id off)|[.aQ]=>some .pO|_=>none
 | .cap=>match args,ts with |[.sl _ _ _ (some k)],[t]=>(match E.d t with |some (.slice _)=>some (int64 k)|_=>none)|_,_=>none
 |_=>none
noncomputable def TW(E:Env)(s d:TypeId)(x:AV):Option AV:=
 match E.d s,E.d d,x with
 |some _,some (.int k),.int _ n=>some (.int k (k.wrap n))
 |some .str,some .str,.str a=>some (.str a)
 |_,_,_=>none
def I4(c:Call):Option Builtin:=match c.callee with | .builtin b=>some b|_=>none
abbrev QF:=Env->Tr AV->AH->Option AV
noncomputable def fD(op:Op):QF:=
 @Op.rec (λ_=>QF)
  (λx _ tm _=>some (ev tm x))
  (λx _ tm _=>some (ev tm x))
  (λc a b _ tm _=>match ev tm c with | .bool t=>some (cond t (ev tm a) (ev tm b))|_=>none)
  (λ_ _ _ _=>none)
  (λ_ _ _ _ _=>none)
  (λt parts E tm _=>Ls E t (UO tm parts.toList))
  (λ_ _ _ _ _ _=>none)
  (λ_ _ _ _ _ _ _=>none)
  (λt a E tm h=>match ev tm a with | .ptr id off=>loadT E h t id off|_=>none)
  (λ_ _ _ _ _ _=>none)
  (λ_ _ _ _=>none)
  (λ_ _ _ _=>none)
  (λx _ tm _=>zi (ev tm x))
  (λop t x y _ E tm _=>abw E op t x y (unB (ev tm x)) (unB (ev tm y)))
  (λop _ x _ tm _=>unA op (ev tm x))
  (λs d x E tm _=>TW E s d (ev tm x))
  (λ_ _ _ _ _=>none)
  (λt x E tm _=>wX E t (ev tm x))
  (λg a b _ tm _=>match g with | .func g=>some (.fn g (evs tm a.toList) (evs tm b.toList))|_=>none)
  (λ_ _ _ _ _=>none)
  (λ_ _ _ _ _=>none)
  (λ_ _ _ _ _ _=>none)
  (λt x lo hi mx E tm _=>gQ E t (nP E (ev tm x)) (PO tm lo) (PO tm hi) (PO tm mx))
  (λs x i E tm _=>xk E s (ev tm x) i)
  (λt x i E tm _=>KT E t (ev tm x) i)
  (λt x i E tm _=>aZ E t (nP E (ev tm x)) (ev tm i))
  (λt x i E tm _=>Ag E t (ev tm x) (ev tm i))
  (λt x i ok E tm h=>yx E h t (ev tm x) (ev tm i) ok)
  (λ_ _ _ _ _ _ _=>none)
  (λ_ _ _ _ _ _=>none)
  (λ_ _ _ _ _ _ _=>none)
  (λ_ _ _ _ _=>none)
  (λ_ _ _ _ _=>none)
  (λit _ tm h=>BN h (ev tm it))
  (λx _ t ok E tm _=>Gi E t (ev tm x) ok)
  (λx i _ tm _=>BL (ev tm x) i)
  (λc E tm h=>match I4 c with
   |some b=>wU E h b (evs tm c.args.toList) c.argTypes.toList
   |none=>none)
  (λ_ _ _ _=>none)
  (λ_ _ _ _=>none)
  (λ_ _ _ _=>none)
  (λ_ _ _ _ _=>none)
  (λ_ _ _ _ _ _=>none)
  (λ_ _ _ _ _=>none)
  op
noncomputable def vH(E:Env)(h:AH)(t:TypeId):Option OR:=
 match E.tt.get t with
 |some ti=>some (.val (.ptr h.nx 0) (h.new (.cells ti.zero t false false)))
 |none=>none
noncomputable def Gh(E:Env)(h:AH)(t:TypeId)(v:AV):Option OR:=
 match E.tt.get t with
 |some ti=>cond v.isAny none (some (.val (.ptr h.nx 0) (h.new (.cells v.cells t false false))))
 |none=>none
noncomputable def jh(E:Env)(h:AH)(t:TypeId)(len:Nat)(ps:List (Nat×AV)):Option OR:=
 match E.d t with
 |some (.slice e)=>match E.tt.get e with
  |some a=>cond (Nat.blt 65536 (len*a.size)) none
   ((BJ (λi=>some (i*a.size,a.size)) (rep len a.zero) ps).map λcs=> .val (.sl h.nx 0 len (some len)) (h.new (.cells cs e false false)))
  |none=>none
 |_=>none
noncomputable def jH(E:Env)(h:AH)(t:TypeId)(a v:AV):Option OR:=
 match E.tt.get t,a with
 |some ti,.ptr id off=>cond v.isAny none
  (cond (Nat.beq v.cells.length ti.size) ((fE h id off v.cells).map λh'=> .val iw h') none)
 |_,_=>none
noncomputable def iy(E:Env)(h:AH)(t:TypeId)(l c:AV):Option OR:=
 match E.d t,l,c with
 |some (.slice e),.int _ n,.int _ m=>match E.tt.get e with
  |some a=>cond (decide (0<=n∧n<=m∧m<=1048576)&&Nat.ble a.bytes 4096)
   (some (.val (.sl h.nx 0 n.toNat (some m.toNat)) (h.new (.cells (rep m.toNat a.zero) e false false)))) none
  |none=>none
 |_,_,_=>none
noncomputable def lg(E:Env)(h:AH)(t:TypeId)(r:Option AV):Option OR:=
 match r with
 |none=>some (.val (.map h.nx) (h.new (.map [] 0)))
 |some (.int _ _)=>(match E.d t with
  |some (.map _ _)=>some (.val (.map h.nx) (h.new (.map [] 0)))
  |_=>none)
 |_=>none
noncomputable def jO(E:Env)(h:AH)(t:TypeId)(m k x:AV):Option OR:=
 match E.d t,m with
 |some (.map b _),.map id=>match cond (KL E b k) (h.obj id) .dead with
  | .map es a=>match AL k es 0 with
    |none=>none
    |some (some (i,_))=>some (.val iw (h.put id (.map (es.modify i λe=>{ e with key:=k,val:=x }) a)))
    |some none=>some (.val iw (h.put id (.map (es++[⟨k,x,a⟩]) (a+1))))
  |_=>none
 |_,_=>none
noncomputable def oU(E:Env)(h:AH)(t:TypeId)(m k:AV):Option OR:=
 match E.d t,m with
 |some (.map c e),.map id=>match cond (KL E c k) (h.obj id) .dead,E.tt.get e with
  | .map es a,some b=>match AL k es 0 with
    |none=>none
    |some (some (i,v))=>match es[i]? with
     |some en=>some (.val (.gI [v,int64 en.born]) (h.put id (.map (es.modify i λe=>{ e with key:=k }) a)))
     |none=>none
    |some none=>some (.val (.gI [b.zeroV,int64 a]) (h.put id (.map (es++[⟨k,b.zeroV,a⟩]) (a+1))))
  |_,_=>none
 |_,_=>none
noncomputable def lJ(h:AH)(m s x:AV):Option OR:=
 match m,s with
 | .map id,.int _ st=>match h.obj id with
   | .map es a=>match es.findIdx? (λe=>(e.born:Int)==st)with
     |some i=>some (.val iw (h.put id (.map (es.modify i λe=>{ e with val:=x }) a)))
     |none=>none
   |_=>none
 |_,_=>none
noncomputable def yK(E:Env)(h:AH)(t:TypeId)(x:AV):Option OR:=
 match E.d t,x with
 |some .str,.str s=>some (.val (.ptr h.nx 0) (h.new (.sit s 0)))
 |some (.map _ _),.pF=>some (.val (.ptr h.nx 0) (h.new (.KE none 0 [] 0)))
 |some (.map _ _),.map id=>match h.obj id with
  | .map _ a=>some (.val (.ptr h.nx 0) (h.new (.KE (some id) a [] a)))
  |_=>none
 |_,_=>none
noncomputable def Jw(h:AH)(id m a:Nat)(seen:List Nat)(c:Nat):Option OR:=
 match h.obj m with
 | .map es b=>
   cond (!seen.isEmpty&& !es.isEmpty&&es.all (λe=>Nat.ble c e.born)) none
    (cond ((es.filter λe=> !seen.contains e.born).all λe=>Nat.blt e.born a)
     (match es.filter λe=> !seen.contains e.born with
      |[]=>some (.val (.gI [.bool false]) h)
      |l=>some (.alts (l.map λe=>(.gI [.bool true,e.key,e.val],h.put id (.KE (some m) a (seen++[e.born]) b)))))
     none)
 |_=>none
noncomputable def IK(h:AH)(it:AV)(isS:Bool):Option OR:=
 match it with
 | .ptr id 0=>match h.obj id,isS with
   | .sit s pos,true=>match s[pos]? with
     |none=>some (.val (.gI [.bool false]) h)
     |some b=>cond (decide (b.toNat<128)) (some (.val (.gI [.bool true,int64 pos,.int .i32 b.toNat]) (h.put id (.sit s (pos+1))))) none
   | .KE none _ _ _,false=>some (.val (.gI [.bool false]) h)
   | .KE (some m) a seen c,false=>Jw h id m a seen c
   |_,_=>none
 |_=>none
noncomputable def Ap(E:Env)(h:AH)(t:TypeId)(m k:AV):Option OR:=
 match E.d t,m with
 |some (.map b _),.pF=>cond (KL E b k) (some (.val (.gI []) h)) none
 |some (.map b _),.map id=>match cond (KL E b k) (h.obj id) .dead with
  | .map es a=>match AL k es 0 with
    |none=>none
    |some (some (i,_))=>some (.val (.gI []) (h.put id (.map (es.eraseIdx i) a)))
    |some none=>some (.val (.gI []) (h.put id (.map es a)))
  |_=>none
 |_,_=>none
noncomputable def EC(E:Env)(h:AH)(t:TypeId)(m:AV):Option OR:=
 match E.d t,m with
 |some (.map _ _),.map id=>match h.obj id with
  | .map _ a=>some (.val (.gI []) (h.put id (.map [] a)))
  |_=>none
 |some (.slice e),.sl id off n _=>match E.tt.get e with
  |some b=>cond (Nat.beq n 0) none ((fE h id off (rep n b.zero)).map λh'=> .val (.gI []) h')
  |none=>none
 |_,_=>none
noncomputable def abr(E:Env)(e:TypeId):Bool:=
 match E.tt.get e with
 |some ti=>(match ti.d with | .int .u8=>Nat.beq ti.size 1|_=>false)
 |none=>false
noncomputable def mY(E:Env)(h:AH)(a:TypeId)(p n:AV):Option OR:=
 match p,n with
 | .pO,.int _ n=>cond (n==0) (some (.val (.str []) h)) none
 | .ptr id off,.int _ n=>
   match E.d a,h.obj id with
   |some (.ptr e),.cells vs el g _=>
    cond (abr E e&&Nat.beq el e&&decide (0<n)&&decide (n<=268435456)) (match takeN vs off n.toNat with
     |some c=>(strOf c).map λs=> .val (.str s) (h.put id (.cells vs el g true))
     |none=>none) none
   |_,_=>none
 |_,_=>none
noncomputable def gX(E:Env)(h:AH)(b:Builtin)(args:List AV)(ts:List TypeId):Option OR:=
 match b with
 | .append=>match args,ts with |[s,x],[t,u]=>(abz E h t u (nP E s) x).map λp=> .val p.1 p.2|_,_=>none
 | .copy=>match args,ts with |[d,s],t::_=>(IW E h t (nP E d) (nP E s)).map λp=> .val p.1 p.2|_,_=>none
 | .delete=>match args,ts with |[m,k],t::_=>Ap E h t m k|_,_=>none
 | .clear=>match args,ts with |[m],t::_=>EC E h t m|_,_=>none
 | .unsafeString=>match args,ts with |[p,n],t::_=>mY E h t p n|_,_=>none
 |_=>none
def JE(E:Env)(r:AV)(m:String)(args:List AV):Option OR:=
 match r with
 | .iface t v=>match E.RU.find? (λp=>Nat.beq p.1 t&&p.2.1==m)with
   |some p=>some (.call p.2.2 (v::args))
   |none=>none
 |_=>none
def XL(g:AV)(args:List AV):Option OR:=
 match g with
 | .fn i first cap=>some (.call i (first++args++cap))
 | .yield l=>some (.yield l args)
 |_=>none
abbrev LF:=Env->Tr AV->AH->Option OR
noncomputable def D8(c:Call):LF:=λE tm h=>match c.callee with
 | .builtin b=>gX E h b (evs tm c.args.toList) c.argTypes.toList
 | .value g=>XL (ev tm g) (evs tm c.args.toList)
 | .invoke r m=>JE E (ev tm r) m (evs tm c.args.toList)
noncomputable def fQ(op:Op):LF:=
 @Op.rec (λ_=>LF)
  (λ_ _ _ _=>none)
  (λ_ _ _ _=>none)
  (λ_ _ _ _ _ _=>none)
  (λt E _ h=>vH E h t)
  (λt x E tm h=>Gh E h t (ev tm x))
  (λ_ _ _ _ _=>none)
  (λt len parts E tm h=>jh E h t len (UO tm parts.toList))
  (λt m k x E tm h=>jO E h t (ev tm m) (ev tm k) (ev tm x))
  (λ_ _ _ _ _=>none)
  (λt a x E tm h=>jH E h t (ev tm a) (ev tm x))
  (λ_ _ _ _=>none)
  (λ_ _ _ _=>none)
  (λ_ _ _ _=>none)
  (λ_ _ _ _ _ _ _ _=>none)
  (λ_ _ _ _ _ _=>none)
  (λs d x E tm h=>IY E s d (ev tm x) h)
  (λ_ _ _ _ _=>none)
  (λ_ _ _ _ _=>none)
  (λ_ _ _ _ _ _=>none)
  (λt r E tm h=>lg E h t (PO tm r))
  (λ_ _ _ _ _=>none)
  (λt l c E tm h=>iy E h t (ev tm l) (ev tm c))
  (λ_ _ _ _ _ _ _ _=>none)
  (λ_ _ _ _ _ _=>none)
  (λ_ _ _ _ _ _=>none)
  (λ_ _ _ _ _ _=>none)
  (λ_ _ _ _ _ _=>none)
  (λ_ _ _ _ _ _ _=>none)
  (λt m k x E tm h=>jO E h t (ev tm m) (ev tm k) (ev tm x))
  (λt m k E tm h=>oU E h t (ev tm m) (ev tm k))
  (λ_ m s x _ tm h=>lJ h (ev tm m) (ev tm s) (ev tm x))
  (λt x E tm h=>yK E h t (ev tm x))
  (λit isS _ tm h=>IK h (ev tm it) isS)
  (λ_ _ _ _=>none)
  (λ_ _ _ _ _ _ _=>none)
  (λ_ _ _ _ _=>none)
  D8
  (λ_ _ _ _=>some .stop)
  (λc _ tm _=>match c.callee with
   | .value g=>(match ev tm g with
     | .fn f a b=>some (.yU ⟨.fn f a b,evs tm c.args.toList⟩)
     |_=>none)
   |_=>none)
  (λ_ _ _ _=>none)
  (λ_ _ _ _ _=>none)
  (λ_ _ _ _ _ _=>none)
  (λ_ _ _ _ _=>none)
  op
noncomputable def PN(x:EX)(args:List AV)(h:AH):Option OR:=
 match x,args with
 | .wW,[v]=>some (.val v h)
 | .Ak,_=>some (.val (.bool false) h)
 | .race,[.ptr id _]=>(match h.obj id with
   | .cells _ _ _ _=>some (.val (.gI []) h)
   |_=>none)
 | .YR,[]=>some (.val (.gI []) { h with df:=h.df+1 })
 | .en,[]=>cond (Nat.beq h.df 0) none (some (.val (.gI []) { h with df:=h.df - 1 }))
 | .I7 k,[.ptr id off,.int k' d]=>(match h.obj id with
   | .cells vs _ _ _=>(match vs[off]? with
     |some (.int c n)=>cond (zq k k'&&zq k c) ((fE h id off [.int k (k.wrap (n+d))]).map λh'=> .val (.int k (k.wrap (n+d))) h') none
     |_=>none)
   |_=>none)
 | .EG k,[.ptr id off]=>(match h.obj id with
   | .cells vs _ _ _=>(match vs[off]? with
     |some (.int c n)=>cond (zq k c) (some (.val (.int k n) h)) none
     |_=>none)
   |_=>none)
 | .I5 k,[.ptr id off,.int k' a,.int k1 b]=>(match h.obj id with
   | .cells vs _ _ false=>(match vs[off]? with
     |some (.int c n)=>cond (zq k k'&&zq k c&&zq k k1) (cond (n==a) ((fE h id off [.int k b]).map λh'=> .val (.bool true) h') (some (.val (.bool false) h))) none
     |_=>none)
   |_=>none)
 | .Ez,[.str a,.str b]=>some (.val (int64 (Extern.BytealgCompare.cmp ⟨a.toArray⟩ ⟨b.toArray⟩)) h)
 | .zl,[.iface t (.map id)]=>(match h.obj id with
   | .map es e=>some (.val (.iface t (.map h.nx)) (h.new (.map es e)))
   |_=>none)
 | .overlaps,[.sl i _ _ _,.sl j _ _ _]=>(match h.obj i,h.obj j with
   | .cells (_::_) _ false false,.cells (_::_) _ _ _=>cond (Nat.beq i j) none (some (.val (.bool false) h))
   |_,_=>none)
 | .stop,_=>some .stop
 |_,_=>none
theorem runT_bind{α β:Type}(P:Program)(f:α->Sem β)(s:Sem α):∀(w:World) (b:Array Event),
 (s>>=f).runT P w b=match s.runT P w b with
  |(.ok a w',e1)=>(f a).runT P w' e1
  |(.halt h w',e1)=>(.halt h w',e1):=by
 intro w b;show(s.bind f).runT P w b=_;rw[Sem.runT_bind'];cases s.runT P w b with
 |mk r e=>cases r<;>rfl
def ak{α:Type}(P:Program)(s:Sem α)(w:World)(r:α)(w':World)(es:List Event):Prop:=
 ∀a,s.runT P w a=(.ok r w',a++es.toArray)
section
variable{Z Y:Type}{P:Program}{w w1 w2:World}
theorem ak.pure(a:Z):ak P (Pure.pure a:Sem Z) w a w []:=λb=>by
 show(Sem.pure a).runT P w b=_;unfold Sem.runT;simp
theorem ak.bind{s:Sem Z}{f:Z->Sem Y}{a:Z}{b:Y}{e1 e2:List Event}(h1:ak P s w a w1 e1)(c:ak P (f a) w1 b w2 e2):
 ak P (s>>=f) w b w2 (e1++e2):=λd=>by
 rw[runT_bind,h1 d];simp only;rw[c];simp
theorem ak.aG{s:Sem Z}{f:Z->Sem Y}{a:Z}{b:Y}{e2:List Event}(h1:ak P s w a w1 [])(c:ak P (f a) w1 b w2 e2):
 ak P (s>>=f) w b w2 e2:=by simpa using ak.bind h1 c
theorem ak.run{s:Sem Z}{a:Z}{es:List Event}(h:ak P s w a w1 es):s.run P w= .ok a w1:=by
 have:=h #[];rw[Sem.runT_eq]at this;exact(rU this).1
theorem ak.load{a:Addr}{v:Value}(h:w.cell? a=some v):ak P (Go.load a) w v w [⟨.cell a,false,false⟩]:=λb=>by
 unfold Go.load;simp only[Sem.runT,h];simp[Sem.runT];rfl
theorem ak.store{a:Addr}{v v0:Value}(h:w.cell? a=some v0)(b:w.frozen? a=false)(c:∀cs,v≠.agg cs)(d:∀cs,v≠.tuple cs):
 ak P (Go.store a v) w () (w.setCell a v) [⟨.cell a,true,false⟩]:=λe=>by
 unfold Go.store;cases v<;>first
  |exact aX rfl (c _)
  |exact aX rfl (d _)
  |(simp only[Sem.runT,h,b];simp[Sem.runT];rfl)
theorem ak.new(o:Obj):ak P (newObj o) w w.heap.size { w with heap:=w.heap.push o } []:=λa=>by
 unfold newObj;simp[Sem.runT]
theorem ak.getObj{r:Nat}{o:Obj}(h:w.heap[r]? =some o)(a:∀c e f,o≠.cells c e f):ak P (Go.getObj r) w o w [⟨.obj r,false,o.isChan⟩]:=λb=>by
 unfold Go.getObj;cases o<;>first
  |exact aX rfl (a _ _ _)
  |(simp only[Sem.runT,h];simp[Sem.runT])
theorem ak.setObj{r:Nat}{o a:Obj}(h:w.heap[r]? =some o)(b:∀c e f,o≠.cells c e f):
 ak P (Go.setObj r a) w () { w with heap:=w.heap.setIfInBounds r a } [⟨.obj r,true,a.isChan⟩]:=λd=>by
 unfold Go.setObj;cases o<;>first
  |exact aX rfl (b _ _ _)
  |(simp only[Sem.runT,h];simp[Sem.runT])
theorem ak.mark(m:Mark):ak P (Go.mark m) w () w [⟨.mark m,false,true⟩]:=λa=>by
 unfold Go.mark;simp[Sem.runT]
theorem ak.program:ak P Go.program w P w []:=λa=>by unfold Go.program;simp[Sem.runT]
theorem ak.shape(r:Nat):ak P (Go.shape r) w (w.shape? r) w []:=λa=>by unfold Go.shape;simp[Sem.runT]
theorem ak.frozen(a:Addr):ak P (Go.frozen a) w (w.frozen? a) w []:=λb=>by unfold Go.frozen;simp[Sem.runT]
theorem ak.freeze(a:Addr)(n:Nat):ak P (Go.freeze a n) w () (w.freeze a n) []:=λb=>by unfold Go.freeze;simp[Sem.runT]
theorem ak.choose(q:Question):∃k w',ak P (Go.choose q) w k w' []∧(∃d,w'={ w with drawn:=d })∧(∃t,k=q.cut t∨k=0∧q.forced=true):=by
 by_cases a:q.forced=true
 .exact⟨0,w,λb=>by unfold Go.choose;simp[Sem.runT,a],⟨w.drawn,rfl⟩,0,.inr ⟨rfl,a⟩⟩
 .exact⟨_,_,λb=>by unfold Go.choose;simp[Sem.runT,a];exact⟨rfl,rfl⟩,⟨_,rfl⟩,_,.inl rfl⟩
theorem ak.typeInfo{t:TypeId}{i:TypeInfo}(h:P.info? t=some i):ak P (Go.typeInfo t) w i w []:=by
 unfold Go.typeInfo;exact ak.bind (e1:=[]) ak.program (by simp only[h];exact ak.pure i)
theorem ak.underlying{t:TypeId}{d:TypeDesc}(h:P.underlying t=some d):ak P (Go.underlying t) w d w []:=by
 unfold Go.underlying;exact ak.bind (e1:=[]) ak.program (by simp only[h];exact ak.pure d)
theorem ak.sizeOf{t:TypeId}{i:TypeInfo}(h:P.info? t=some i):ak P (Go.sizeOf t) w i.size w []:=by
 unfold Go.sizeOf;exact ak.bind (e1:=[]) (ak.typeInfo h) (ak.pure _)
theorem ak.zeroValue{t:TypeId}{i:TypeInfo}{v:Value}(h:P.info? t=some i)(a:i.zero=some v):ak P (Go.zeroValue t) w v w []:=by
 unfold Go.zeroValue;exact ak.bind (e1:=[]) (ak.typeInfo h) (by simp only[a];exact ak.pure v)
end
def Dl(listed:Array Bool):Nat->Bool:=λj=>listed.getD j false
def left'(n:Nat)(listed:Array Bool):Nat:=((List.range n).filter λi=>Dl listed i==false).length
def Left(ops:Array Oper)(n:Nat)(b:List Nat):Prop:=
 ∃a t listed,listed.size=ops.size∧left' ops.size listed<=a∧(∀i,Dl listed i=decide (i<n))∧b=Region.linearise.go .any ops a t listed []
noncomputable def fin(x:AX)(d:Option Tmp)(v:AV)(tm:Tr AV):Tr AV:=
 match d with
 |none=>tm
 |some d=>tm.set d (cond (Nat.blt d x.nt) v iw)
def AP(id:Nat):List AI->Option (List AI)
 | .inBlock a::k=>cond (Nat.beq a id) (some k) (AP id k)
 |_::k=>AP id k
 |[]=>none
def AB(l:Nat):List AI->Option (List AI)
 | .inScope body::k=>match findLabel body l with
   |some a=>some (.code a:: .inScope body::k)
   |none=>AB l k
 |_::k=>AB l k
 |[]=>none
noncomputable def Vz(ops:Array Oper)(tm:Tr AV)(j:Nat)(a:Bool):Option Bool:=
 match ops[j]? with
 |none=>some false
 |some o=>match o.dst with
  |none=>some false
  |some d=>match tm.get d with
   |some (.bool b)=>some (cond a b (!b))
   |some (.gI [])=>some false
   |_=>none
noncomputable def dU(o:Oper)(ops:Array Oper)(tm:Tr AV):Option Bool:=
 match o.guard with
 |none=>some true
 |some p=>Vz ops tm p.1 p.2
inductive A1 where
 |go (f:AF) (h:AH)
 |call (f:AF) (dst:Option Tmp) (g:FuncId) (args:List AV) (h:AH)
 |dcall (f:AF) (g:FuncId) (args:List AV) (h:AH)
 |round (f:AF) (dst:Option Tmp) (id:Nat) (args:List AV) (h:AH)
 |drawn (x:AX) (tm:Tr AV) (ops:Array Oper) (k:List AI) (ds:List AD) (h:AH)
 |alts (l:List (AF×AH))
 |ret (v:AV) (h:AH)
 |stop
noncomputable def J9(E:Env)(b:List ResultVar)(tm:Tr AV)(h:AH):Option (List AV):=
 match b with
 |[]=>some []
 | .tmp t::l=>(match J9 E l tm h with |some r=>some (ev tm (.tmp t)::r)|none=>none)
 | .cell a t::l=>match ev tm (.tmp a)with
   | .ptr id off=>(match loadT E h t id off with
     |some v=>(match J9 E l tm h with |some r=>some (v::r)|none=>none)
     |none=>none)
   |_=>none
def NM(ops:Array Oper)(a:List Oper)(k:List AI):List AI:= .inRegion ops a::k
noncomputable def YN(x:AX)(tm:Tr AV)(d:Option Tmp)(td:List AI)(ds:List AD):Option OR->Option A1
 |some (.val v h')=>some (.go ⟨x,fin x d v tm,td,ds,false⟩ h')
 |some .stop=>some .stop
 |_=>none
noncomputable def Ll(E:Env)(x:AX)(tm:Tr AV)(d:Option Tmp)(td:List AI)(ds:List AD)(h:AH)(g:FuncId)(args:List AV):Option A1:=
 match E.ft.get g with
 |some ⟨some _,_,_,_⟩=>some (.call ⟨x,tm,td,ds,false⟩ d g args h)
 |some ⟨none,_,_,e⟩=>YN x tm d td ds (PN e args h)
 |none=>none
noncomputable def Xm(E:Env)(x:AX)(tm:Tr AV)(d:Option Tmp)(td:List AI)(ds:List AD)(h:AH):Option OR->Option A1
 |some (.val v h')=>some (.go ⟨x,fin x d v tm,td,ds,false⟩ h')
 |some (.call g args)=>Ll E x tm d td ds h g args
 |some (.yield l args)=>some (.round ⟨x,tm,td,ds,false⟩ d l args h)
 |some (.yU a)=>(match x.round with |none=>some (.go ⟨x,fin x d iw tm,td,a::ds,false⟩ h)|some _=>none)
 |some (.alts l)=>some (.alts (l.map λp=>(⟨x,fin x d p.1 tm,td,ds,false⟩,p.2)))
 |some .stop=>some .stop
 |none=>none
noncomputable def opA(E:Env)(x:AX)(tm:Tr AV)(td:List AI)(ds:List AD)(h:AH)(o:Oper):Option A1:=
 match fD o.op E tm h with
 |some v=>some (.go ⟨x,fin x o.dst v tm,td,ds,false⟩ h)
 |none=>Xm E x tm o.dst td ds h (fQ o.op E tm h)
noncomputable def OG(E:Env)(x:AX)(tm:Tr AV)(todo:List AI)(ds:List AD)(h:AH):Option A1:=
 match ds with
 |d::ds=>(match d.f with
  | .pF=>
    (match d.args with
    |[.ptr id 0]=>(match h.obj id with
     | .yU false=>some (.go ⟨x,tm,todo,ds,true⟩ (h.put id (.yU true)))
     |_=>none)
    |_=>none)
  | .fn g first cap=>(match E.ft.get g with
    |some ⟨some _,_,_,_⟩=>some (.dcall ⟨x,tm,todo,ds,true⟩ g (first++d.args++cap) h)
    |some ⟨none,_,_,e⟩=>(match PN e (first++d.args++cap) h with
     |some (.val _ h')=>some (.go ⟨x,tm,todo,ds,true⟩ h')
     |some .stop=>some .stop
     |_=>none)
    |none=>none)
  |_=>none)
 |[]=>(match E.ft.get x.fn with
  |some ⟨some _,_,a,_⟩=>(match J9 E a tm h with
   |some [v]=>some (.ret v h)
   |some l=>some (.ret (.gI l) h)
   |none=>none)
  |_=>none)
noncomputable def mP(x:AX)(tm:Tr AV)(todo:List AI)(ds:List AD)(h:AH)(jump:Option Code):Option A1:=
 match x.round with
 |none=>(match jump with
  |none|some .ret=>some (.go ⟨x,tm,todo,ds,true⟩ h)
  |_=>none)
 |some l=>(match h.obj l with
  | .loop _ _ fn nt t ps a b d=>some (.ret (.bool jump.isNone) (h.put l (.loop (cond jump.isNone .ready .done) jump fn nt t ps a b d)))
  |_=>none)
noncomputable def ru(E:Env)(x:AX)(tm:Tr AV)(ds:List AD)(h:AH)(k:List AI)(g:Operand)(ps:Array Tmp)(a b:Code):Option A1:=
 match(match x.round with
       |some l=>(match h.obj l with | .loop _ _ _ _ _ _ _ _ d=>some (d,h,[])|_=>none)
       |none=>some (h.nx,h.new (.yU false),[AD.mk .pF [.ptr h.nx 0]]))with
 |some (d,h1,mark)=>(match ev tm g with
  | .fn i first cap=>(match E.ft.get i with
    |some ⟨some _,_,_,_⟩=>some (.call ⟨x,tm,.endRangeFunc h1.nx::k,mark++ds,false⟩ none i (first++[.yield h1.nx]++cap) (h1.new (.loop .ready none x.fn x.nt tm ps.toList a b d)))
    |_=>none)
  |_=>none)
 |none=>none
noncomputable def qx(E:Env)(x:AX)(tm:Tr AV)(ds:List AD)(h:AH)(k:List AI)(ops:Array Oper)(o:Oper)(a:List Oper):Option A1:=
 match dU o ops tm with
 |some true=>opA E x tm (NM ops a k) ds h o
 |some false=>some (.go ⟨x,fin x o.dst iw tm,NM ops a k,ds,false⟩ h)
 |none=>none
noncomputable def Ld(E:Env)(c:Code)(k:List AI)(x:AX)(tm:Tr AV)(ds:List AD)(h:AH):Option A1:=
 (match c with
  | .skip=>λ_ k x tm ds h=>some (.go ⟨x,tm,k,ds,false⟩ h)
  | .label _=>λ_ k x tm ds h=>some (.go ⟨x,tm,k,ds,false⟩ h)
  | .ret=>λ_ k x tm ds h=>mP x tm (.code .ret::k) ds h (some .ret)
  | .seq a b=>λ_ k x tm ds h=>some (.go ⟨x,tm,.code a:: .code b::k,ds,false⟩ h)
  | .cond c a b=>λ_ k x tm ds h=>(match ev tm c with
    | .bool t=>some (.go ⟨x,tm,.code (cond t a b)::k,ds,false⟩ h)
    |_=>none)
  | .block id body=>λ_ k x tm ds h=>some (.go ⟨x,tm,.code body:: .inBlock id::k,ds,false⟩ h)
  | .loop body=>λ_ k x tm ds h=>some (.go ⟨x,tm,.code body:: .inLoop body::k,ds,false⟩ h)
  | .scope body=>λ_ k x tm ds h=>some (.go ⟨x,tm,.code body:: .inScope body::k,ds,false⟩ h)
  | .exit id=>λ_ k x tm ds h=>(match AP id k with
    |some k'=>some (.go ⟨x,tm,k',ds,false⟩ h)
    |none=>mP x tm (.code (.exit id)::k) ds h (some (.exit id)))
  | .goto l=>λ_ k x tm ds h=>(match AB l k with
    |some k'=>some (.go ⟨x,tm,k',ds,false⟩ h)
    |none=>mP x tm (.code (.goto l)::k) ds h (some (.goto l)))
  | .rangeFunc g ps a b=>λE k x tm ds h=>ru E x tm ds h k g ps a b
  | .region _ ops d=>λ_ k x tm ds h=>cond d (some (.drawn x tm ops k ds h)) (some (.go ⟨x,tm,NM ops ops.toList k,ds,false⟩ h))
  | .refuse _=>λ_ _ _ _ _ _=>none:Env->List AI->AX->Tr AV->List AD->AH->Option A1) E k x tm ds h
noncomputable def Xv(E:Env)(i:AI)(k:List AI)(x:AX)(tm:Tr AV)(ds:List AD)(h:AH):Option A1:=
 (match i with
  | .code c=>λE k x tm ds h=>Ld E c k x tm ds h
  | .inBlock _=>λ_ k x tm ds h=>some (.go ⟨x,tm,k,ds,false⟩ h)
  | .inScope _=>λ_ k x tm ds h=>some (.go ⟨x,tm,k,ds,false⟩ h)
  | .inLoop body=>λ_ k x tm ds h=>some (.go ⟨x,tm,.code body:: .inLoop body::k,ds,false⟩ h)
  | .inRegion ops l=>λE k x tm ds h=>(match l with
    |[]=>some (.go ⟨x,tm,k,ds,false⟩ h)
    |o::e=>qx E x tm ds h k ops o e)
  | .inRangeFunc _=>λ_ _ _ _ _ _=>none
  | .endRangeFunc l=>λ_ k x tm ds h=>(match h.obj l with
    | .loop st p fn nt t ps a b d=>cond (match st with | .busy=>true|_=>false) none
     (some (.go ⟨x,tm,(match p with |some c=> .code c::k|none=>k),ds,false⟩ (h.put l (.loop .exhausted p fn nt t ps a b d))))
    |_=>none)
  | .beginRound=>λ_ k x tm ds h=>(match x.round with
    |some l=>(match h.obj l with
     | .loop .ready p fn nt t ps a b d=>some (.go ⟨x,tm,k,ds,false⟩ (h.put l (.loop .busy p fn nt t ps a b d)))
     |_=>none)
    |none=>none)
  | .uz _ _=>λ_ _ _ _ _ _=>none:Env->List AI->AX->Tr AV->List AD->AH->Option A1) E k x tm ds h
noncomputable def iZ(E:Env)(f:AF)(h:AH):Option A1:=
 match f with
 |⟨x,tm,todo,ds,ret⟩=>cond ret (OG E x tm todo ds h) (match todo with
  |[]=>mP x tm [] ds h none
  |i::k=>Xv E i k x tm ds h)
noncomputable def setArgs:List AV->Nat->Tr AV->Tr AV
 |[],_,t=>t
 |a::l,i,t=>setArgs l (Nat.succ i) (t.set i a)
noncomputable def jJ(E:Env)(g:FuncId)(args:List AV)(deferred:Bool):Option AF:=
 match E.ft.get g with
 |some ⟨some c,n,_,_⟩=>cond (Nat.ble args.length n) (some ⟨⟨g,deferred,none,n⟩,setArgs args 0 .e,[.code c],[],false⟩) none
 |_=>none
noncomputable def WG:List (Nat×AV)->Nat->Tr AV->Tr AV
 |[],_,t=>t
 |p::l,n,t=>WG l n (t.set p.1 (cond (Nat.blt p.1 n) p.2 iw))
noncomputable def wQ(h:AH)(id:Nat)(args:List AV):Option AF:=
 match h.obj id with
 | .loop _ _ fn nt tm ps a b _=>
   cond (Nat.beq args.length ps.length) (some ⟨⟨fn,false,some id,nt⟩,WG (ps.zip args) nt tm,[.code a,.beginRound,.code b],[],false⟩) none
 |_=>none
mutual
def AV.beq:AV->AV->Bool
 | .any,.any=>true
 | .one,.one=>true
 | .bool a,.bool b=>a==b
 | .int k a,.int j b=>k==j&&a==b
 | .str a,.str b=>a==b
 | .pO,.pO=>true
 | .ptr a b,.ptr c d=>Nat.beq a c&&Nat.beq b d
 | .aQ,.aQ=>true
 | .emp,.emp=>true
 | .aO a n c,.aO b m d=>decide (a=b)&&(Nat.beq n m&&Nat.beq c d)
 | .sl a b c d,.sl x y z u=>Nat.beq a x&&Nat.beq b y&&Nat.beq c z&&d==u
 | .pF,.pF=>true
 | .map a,.map b=>Nat.beq a b
 | .um,.um=>true
 | .fn f a b,.fn g c d=>Nat.beq f g&&AV.BZ a c&&AV.BZ b d
 | .yield a,.yield b=>Nat.beq a b
 | .uj,.uj=>true
 | .iface t a,.iface u b=>Nat.beq t u&&AV.beq a b
 | .agg a,.agg b=>AV.BZ a b
 | .gI a,.gI b=>AV.BZ a b
 |_,_=>false
def AV.BZ:List AV->List AV->Bool
 |[],[]=>true
 |a::l,b::m=>AV.beq a b&&AV.BZ l m
 |_,_=>false
end
def AE.BZ:List AE->List AE->Bool
 |[],[]=>true
 |a::l,b::m=>AV.beq a.key b.key&&AV.beq a.val b.val&&Nat.beq a.born b.born&&AE.BZ l m
 |_,_=>false
def AO.beq:AO->AO->Bool
 | .cells a e g z,.cells b h g' i=>Nat.beq e h&&g==g'&&z==i&&AV.BZ a b
 | .map a c,.map b d=>Nat.beq c d&&AE.BZ a b
 | .KE a b c d,.KE f b' j k=>a==f&&Nat.beq b b'&&c==j&&Nat.beq d k
 | .sit a b,.sit f b'=>a==f&&Nat.beq b b'
 |_,_=>false
def Bo:Tr AO->Tr AO->Tr AO
 | .n l (some a) r,.n c (some b) d=> .n (Bo l c) (cond (AO.beq a b) (some a) none) (Bo r d)
 | .n l _ r,.n c _ d=> .n (Bo l c) none (Bo r d)
 |_,_=> .e
noncomputable def AH.meet(a b:AH):AH:=⟨Bo a.tr b.tr,max a.nx b.nx,a.df⟩
def sw(a b i:Nat):Nat:=cond (Nat.beq i a) b (cond (Nat.beq i b) a i)
mutual
def AV.sw(a b:Nat):AV->AV
 | .ptr i o=> .ptr (Ev.sw a b i) o
 | .sl i o l c=> .sl (Ev.sw a b i) o l c
 | .map i=> .map (Ev.sw a b i)
 | .yield i=> .yield (Ev.sw a b i)
 | .fn f l m=> .fn f (AV.Zg a b l) (AV.Zg a b m)
 | .iface t v=> .iface t (AV.sw a b v)
 | .agg l=> .agg (AV.Zg a b l)
 | .gI l=> .gI (AV.Zg a b l)
 |v=>v
def AV.Zg(a b:Nat):List AV->List AV
 |[]=>[]
 |v::l=>AV.sw a b v::AV.Zg a b l
end
def zk{α:Type}(f:α->α):Tr α->Tr α
 | .e=> .e
 | .n l v r=> .n (zk f l) (match v with |some x=>some (f x)|none=>none) (zk f r)
def AO.sw(a b:Nat):AO->AO
 | .dead=> .dead
 | .cells vs e g z=> .cells (AV.Zg a b vs) e g z
 | .map es c=> .map (es.map λe=>⟨e.key.sw a b,e.val.sw a b,e.born⟩) c
 | .KE m s l p=> .KE (match m with |some i=>some (Ev.sw a b i)|none=>none) s l p
 | .sit s p=> .sit s p
 | .loop st p fn nt tm ps x y d=> .loop st p fn nt (zk (AV.sw a b) tm) ps x y (Ev.sw a b d)
 | .yU z=> .yU z
noncomputable def acT(t:Tr AO)(i:Nat):AO:=match t.get i with |some o=>o|none=> .dead
noncomputable def swT(a b:Nat)(t:Tr AO):Tr AO:=(t.set a (acT t b)).set b (acT t a)
noncomputable def AH.sw(a b:Nat)(h:AH):AH:=match h with |⟨tr,nx,df⟩=>⟨swT a b (zk (AO.sw a b) tr),nx,df⟩
mutual
def Ri:AV->AV->List (Nat×Nat)
 | .ptr i _,.ptr j _| .sl i _ _ _,.sl j _ _ _| .map i,.map j| .yield i,.yield j=>[(i,j)]
 | .fn _ a b,.fn _ c d=>Rj a c++Rj b d
 | .iface _ a,.iface _ b=>Ri a b
 | .agg a,.agg b| .gI a,.gI b=>Rj a b
 |_,_=>[]
def Rj:List AV->List AV->List (Nat×Nat)
 |a::l,b::m=>Ri a b++Rj l m
 |_,_=>[]
end
def afC:AO->AO->List (Nat×Nat)
 | .cells a _ _ _,.cells b _ _ _=>Rj a b
 | .map a _,.map b _=>(a.zip b).flatMap λp=>Ri p.1.key p.2.key++Ri p.1.val p.2.val
 |_,_=>[]
noncomputable def aar(t1 t2:Tr AO)(n0:Nat):Nat->List (Nat×Nat)->Tr Nat->Option (Nat×Nat)
 |0,_,_=>none
 |_,[],_=>none
 |n+1,p::l,a=>cond (Nat.beq p.1 p.2)
  (match a.get p.1 with
   |some _=>aar t1 t2 n0 n l a
   |none=>match t1.get p.1,t2.get p.1 with
    |some b,some c=>aar t1 t2 n0 n (afC b c++l) (a.set p.1 0)
    |_,_=>aar t1 t2 n0 n l (a.set p.1 0))
  (cond (Nat.ble n0 p.1&&Nat.ble n0 p.2) (some p) (aar t1 t2 n0 n l a))
noncomputable def wR(n0:Nat)(v:AV)(h:AH):Nat->AV×AH->AV×AH
 |0,q=>q
 |n+1,q=>match aar h.tr q.2.tr n0 100000 (Ri v q.1) .e with
  |some p=>cond (Nat.ble n0 p.1&&Nat.ble n0 p.2&&Nat.blt p.1 q.2.nx&&Nat.blt p.2 q.2.nx&&Nat.ble q.2.nx OLD) (wR n0 v h n (q.1.sw p.1 p.2,q.2.sw p.1 p.2)) q
  |none=>q
noncomputable def zZ(r:AF->AH->Option (AV×AH)):AV->AH->List (AF×AH)->Option (AV×AH)
 |v,h,[]=>some (v,h)
 |v,h,p::l=>match r p.1 p.2 with
  |some a=>(match wR p.2.nx v h 12 a with
   |q=>cond (AV.beq v q.1&&Nat.beq h.df q.2.df) (zZ r v (h.meet q.2) l) none)
  |none=>none
mutual
def AV.ids:AV->List Nat
 | .ptr i _| .sl i _ _ _| .map i| .yield i=>[i]
 | .fn _ a b=>AV.YK a++AV.YK b
 | .iface _ v=>AV.ids v
 | .agg l| .gI l=>AV.YK l
 |_=>[]
def AV.YK:List AV->List Nat
 |[]=>[]
 |a::l=>AV.ids a++AV.YK l
end
def AO.ids:AO->List Nat
 | .cells vs _ _ _=>AV.YK vs
 | .map es _=>es.flatMap λe=>AV.ids e.key++AV.ids e.val
 | .KE (some m) _ _ _=>[m]
 |_=>[]
noncomputable def reach(t:Tr AO):Nat->List Nat->Tr AO->Tr AO
 |0,_,acc=>acc
 |_,[],acc=>acc
 |n+1,i::l,acc=>match acc.get i with
  |some _=>reach t n l acc
  |none=>match t.get i with
   |some o=>reach t n (o.ids++l) (acc.set i o)
   |none=>reach t n l acc
noncomputable def AH.sub(h:AH)(args:List AV):AH:=⟨reach h.tr 100000 (AV.YK args) .e,h.nx,h.df⟩
def yw:Tr AO->Tr AO->Tr AO->Tr AO
 | .n l v r,.n pl d f,.n b a c=> .n (yw l pl b) (match d with |some _=>a|none=>match a with |some x=>some x|none=>v) (yw r f c)
 | .n l v r,.e,.n b a c=> .n (yw l .e b) (match a with |some x=>some x|none=>v) (yw r .e c)
 |h,.e,.e=>h
 | .e,_,t=>t
 |_,_,.e=> .e
noncomputable def AH.over(h p h':AH):AH:=⟨yw h.tr p.tr h'.tr,h'.nx,h'.df⟩
def jZ:Op->Bool
 | .alloc _| .box .. | .buildSlice .. | .makeMap .. | .makeSlice .. =>true
 |_=>false
def kG:Op->Bool
 | .load .. | .lookup .. | .entry _| .call _=>true
 |_=>false
noncomputable def wake(m:Nat):List (Nat×Nat×AO)->AH->AH×List (Nat×Nat×AO)
 |[],h=>(h,[])
 |p::l,h=>match wake m l h with
  |(h',a)=>cond (m.testBit p.1) (h'.put p.2.1 p.2.2,a) (h',p::a)
structure DQ where
 op:Op
 i:Nat
 tm:Tr AV
 v:AV
noncomputable def EH(E:Env)(q:DQ)(h:AH):Bool:=match fD q.op E q.tm h with |some v=>AV.beq v q.v|none=>false
noncomputable def uK(E:Env)(b:Array Nat)(q:DQ):List (Nat×AH)->Bool
 |[]=>true
 |p::l=>cond ((b.getD p.1 0).testBit q.i||l.any λx=>(b.getD q.i 0).testBit x.1) (uK E b q l) (EH E q p.2&&uK E b q l)
noncomputable def su(E:Env)(b:Array Nat)(a:List (Nat×AH))(h0:AH)(q:DQ):Bool:=
 cond (a.any λp=>(b.getD q.i 0).testBit p.1) true (EH E q h0)&&uK E b q a
def qB(b:Array Nat):List (Nat×AH)->Bool
 |[]|[_]=>true
 |p::q::l=>(b.getD q.1 0).testBit p.1&&qB b (q::l)
noncomputable def pJ:List (Nat×Nat×AO)->AH->AH
 |[],h=>h
 |p::l,h=>pJ l (h.put p.2.1 p.2.2)
def wS(ops:List Oper)(b:Array Nat)(all:Array Oper):Bool:=
 (ops.zipIdx.all λp=>p.1.after.toList.all (λe=> !Region.binds .any e||Nat.blt e.on p.2)&&(match p.1.dst with |none=>true|some d=>Nat.blt d 1000000))&&
 (ops.zipIdx.all λp=>ops.zipIdx.all λq=>Nat.beq p.2 q.2||(match q.1.dst with
  |none=>true
  |some d=> !((p.1.dst==some d)||(p.1.looksAt all).contains d)||(b.getD p.2 0).testBit q.2||(b.getD q.2 0).testBit p.2))
abbrev nR:=AF->AH->Option (AV×AH)
noncomputable def E8(E:Env)(r:nR)(g:FuncId)(args:List AV)(d:Bool)(h:AH):Option (AV×AH):=
 match jJ E g args d with
 |none=>none
 |some f=>cond (E.small.any (Nat.beq g))
  (match r f (h.sub args)with
   |some p=>some (p.1,h.over (h.sub args) p.2)
   |none=>none)
  (r f h)
structure yc where
 call:FuncId->List AV->AH->Option (AV×AH)
 round:Nat->List AV->AH->Option (AV×AH)
noncomputable def outs(E:Env)(r:nR):yc:=
 ⟨λg args h=>E8 E r g args false h,λl args h=>match wQ h l args with
  |some g=>r g h
  |none=>none⟩
noncomputable def vP(E:Env)(r:yc)(h:AH):Option OR->Option (AV×AH)
 |some (.val v h')=>some (v,h')
 |some (.call g args)=>(match E.ft.get g with
  |some ⟨some _,_,_,_⟩=>r.call g args h
  |some ⟨none,_,_,e⟩=>(match PN e args h with
   |some (.val v h')=>some (v,h')
   |_=>none)
  |none=>none)
 |some (.yield l args)=>r.round l args h
 |_=>none
noncomputable def uJ(E:Env)(r:Nat->yc)(x:AX)(b:Array Nat)(ops:Array Oper)(h0:AH):List Oper->Nat->Tr AV->List DQ->List (Nat×AH)->List (Nat×Nat×AO)->AH->Option (Tr AV×AH)
 |[],_,tm,a,c,ps,h=>cond (qB b c.reverse&&a.all (su E b c.reverse h0)) (some (tm,pJ ps h)) none
 |o::os,i,tm,a,c,ps,h=>match dU o ops tm with
  |none=>none
  |some false=>uJ E r x b ops h0 os (Nat.succ i) (fin x o.dst iw tm) a c ps h
  |some true=>cond (jZ o.op)
   (match fQ o.op E tm h with
    |some (.val v h')=>cond (Nat.blt h.nx 1000000) (uJ E r x b ops h0 os (Nat.succ i) (fin x o.dst v tm) a c ((i,h.nx,h'.obj h.nx)::ps) ⟨h.tr,h'.nx,h'.df⟩) none
    |_=>none)
   (match fD o.op E tm h with
    |some v=>uJ E r x b ops h0 os (Nat.succ i) (fin x o.dst v tm) (cond (kG o.op) (⟨o.op,i,tm,v⟩::a) a) c ps h
    |none=>(match wake (b.getD i 0) ps h with
     |(h,ps)=>(match vP E (r i) h (fQ o.op E tm h)with
      |some p=>uJ E r x b ops h0 os (Nat.succ i) (fin x o.dst p.1 tm) a ((i,p.2)::c) ps p.2
      |none=>none)))
noncomputable def yJ(c:AF×Option Tmp)(v:AV):AF:=match c with |(⟨x,tm,td,ds,_⟩,d)=>⟨x,fin x d v tm,td,ds,false⟩
noncomputable def ET(E:Env)(r:nR)(a:AF->List (AF×Option Tmp)->AH->Option (AV×AH))(k:List (AF×Option Tmp)):Option A1->Option (AV×AH)
 |some (.go f h)=>a f k h
 |some (.ret v h)=>(match k with
  |[]=>some (v,h)
  |c::k'=>a (yJ c v) k' h)
 |some (.call f d g args h)=>cond (E.inl.any (Nat.beq g))
  (match jJ E g args false with
  |some b=>a b ((f,d)::k) h
  |none=>none)
  (match E8 E r g args false h with
  |some p=>a (yJ (f,d) p.1) k p.2
  |none=>none)
 |some (.round f d l args h)=>(match wQ h l args with
  |some g=>(match r g h with
   |some p=>a (yJ (f,d) p.1) k p.2
   |none=>none)
  |none=>none)
 |some (.alts (p::l))=>(match a p.1 k p.2 with
  |some q=>zZ (λf h=>a f k h) q.1 q.2 l
  |none=>none)
 |_=>none
noncomputable def runK(E:Env)(r:nR)(n:Nat):AF->List (AF×Option Tmp)->AH->Option (AV×AH):=
 @Nat.rec (λ_=>AF->List (AF×Option Tmp)->AH->Option (AV×AH)) (λ_ _ _=>none) (λ_ a f k h=>ET E r a k (iZ E f h)) n
noncomputable def QZ(E:Env)(r:nR)(g:FuncId)(args:List AV)(h:AH):Option (AV×AH):=
 cond (E.inl.any (Nat.beq g)) (match jJ E g args false with |some f=>runK E r 100000 f [] h|none=>none) (E8 E r g args false h)
noncomputable def yh(E:Env)(r:nR):Option A1->Option (AV×AH)
 |some (.go f h)=>r f h
 |some (.ret v h)=>some (v,h)
 |some (.call ⟨x,tm,td,ds,_⟩ d g args h)=>(match QZ E r g args h with
  |some p=>r ⟨x,fin x d p.1 tm,td,ds,false⟩ p.2
  |none=>none)
 |some (.dcall f g args h)=>(match E8 E r g args true h with
  |some p=>r f p.2
  |none=>none)
 |some (.round ⟨x,tm,td,ds,_⟩ d l args h)=>(match wQ h l args with
  |some g=>(match r g h with
   |some p=>r ⟨x,fin x d p.1 tm,td,ds,false⟩ p.2
   |none=>none)
  |none=>none)
 |some (.drawn x tm ops k ds h)=>cond (wS ops.toList (Region.before ops) ops) (match uJ E (λ_=>outs E r) x (Region.before ops) ops h ops.toList 0 tm [] [] [] h with
  |some p=>r ⟨x,p.1,k,ds,false⟩ p.2
  |none=>none) none
 |some (.alts (p::l))=>(match r p.1 p.2 with
  |some q=>zZ r q.1 q.2 l
  |none=>none)
 |_=>none
noncomputable def vW(E:Env)(n:Nat):nR:=
 @Nat.rec (λ_=>nR) (λ_ _=>none) (λ_ r f h=>yh E r (iZ E f h)) n
section
variable{i j:Nat}
section
variable{Z:Type}
theorem Tr.fO(i:Nat):(Tr.e:Tr Z).get i=none:=rfl
theorem Tr.jS(l:Tr Z)(v:Option Z)(r:Tr Z)(i:Nat):
 (Tr.n l v r).get i=if i=0 then v else if i % 2=1 then l.get (i / 2)else r.get (i / 2 - 1):=by
 show @Bool.rec (λ_=>Option Z) (@Bool.rec (λ_=>Option Z) (r.get (i / 2 - 1)) (l.get (i / 2)) (Nat.beq (i % 2) 1)) v (Nat.beq i 0)=_;by_cases h:i=0
 .subst h;rfl
 .have h1:Nat.beq i 0=false:=by cases a:Nat.beq i 0 with |false=>rfl|true=>exact aX (au a) h
  rw[h1,ah h];by_cases h':i % 2=1
  .have:Nat.beq (i % 2) 1=true:=by rw[h'];rfl
   rw[this,aC h']
  .have:Nat.beq (i % 2) 1=false:=by cases a:Nat.beq (i % 2) 1 with |false=>rfl|true=>exact aX (au a) h'
   rw[this,ah h']
theorem Tr.aeb(x:Z)(t:Tr Z)(i:Nat):Tr.DT x 0 t i= .e:=rfl
theorem Tr.ZJ(x:Z)(f i:Nat):Tr.DT x (f+1) .e i=if i=0 then .n .e (some x) .e else if i % 2=1 then .n (Tr.DT x f .e (i / 2)) none .e else .n .e none (Tr.DT x f .e (i / 2 - 1)):=by
 show @Bool.rec (λ_=>Tr Z) (@Bool.rec (λ_=>Tr Z) (.n .e none (Tr.DT x f .e (i / 2 - 1))) (.n (Tr.DT x f .e (i / 2)) none .e) (Nat.beq (i % 2) 1)) (.n .e (some x) .e) (Nat.beq i 0)=_;by_cases h:i=0
 .subst h;rfl
 .have h1:Nat.beq i 0=false:=by cases a:Nat.beq i 0 with |false=>rfl|true=>exact aX (au a) h
  rw[h1,ah h];by_cases h':i % 2=1
  .have:Nat.beq (i % 2) 1=true:=by rw[h'];rfl
   rw[this,aC h']
  .have:Nat.beq (i % 2) 1=false:=by cases a:Nat.beq (i % 2) 1 with |false=>rfl|true=>exact aX (au a) h'
   rw[this,ah h']
theorem Tr.ZI(x:Z)(f:Nat)(l:Tr Z)(v:Option Z)(r:Tr Z)(i:Nat):
 Tr.DT x (f+1) (.n l v r) i=if i=0 then .n l (some x) r else if i % 2=1 then .n (Tr.DT x f l (i / 2)) v r else .n l v (Tr.DT x f r (i / 2 - 1)):=by
 show @Bool.rec (λ_=>Tr Z) (@Bool.rec (λ_=>Tr Z) (.n l v (Tr.DT x f r (i / 2 - 1))) (.n (Tr.DT x f l (i / 2)) v r) (Nat.beq (i % 2) 1)) (.n l (some x) r) (Nat.beq i 0)=_;by_cases h:i=0
 .subst h;rfl
 .have h1:Nat.beq i 0=false:=by cases a:Nat.beq i 0 with |false=>rfl|true=>exact aX (au a) h
  rw[h1,ah h];by_cases h':i % 2=1
  .have:Nat.beq (i % 2) 1=true:=by rw[h'];rfl
   rw[this,aC h']
  .have:Nat.beq (i % 2) 1=false:=by cases a:Nat.beq (i % 2) 1 with |false=>rfl|true=>exact aX (au a) h'
   rw[this,ah h']
theorem Tr.aaL(x y:Z):∀(f:Nat) (t:Tr Z) (i j:Nat),(Tr.DT x f t i).get j=some y->(j=i∧y=x)∨(j≠i∧t.get j=some y):=by
 intro f;induction f with
 |zero=>intro t i j h;rw[Tr.aeb,Tr.fO]at h;cases h
 |succ f d=>
  intro t i j h;cases t with
  |e=>
   rw[Tr.ZJ]at h;by_cases hi:i=0
   .rw[aC hi,Tr.jS]at h
    by_cases hj:j=0
    .rw[aC hj]at h;exact .inl ⟨by omega,(aN h).symm⟩
    .rw[ah hj]at h;split at h<;>(rw[Tr.fO]at h;cases h)
   .rw[ah hi]at h
    by_cases c:i % 2=1
    .rw[aC c,Tr.jS]at h
     by_cases hj:j=0
     .rw[aC hj]at h;cases h
     .rw[ah hj]at h
      by_cases a:j % 2=1
      .rw[aC a]at h
       rcases d _ _ _ h with⟨h1,b⟩|⟨_,b⟩
       .exact .inl ⟨by omega,b⟩
       .rw[Tr.fO]at b;cases b
      .rw[ah a,Tr.fO]at h;cases h
    .rw[ah c,Tr.jS]at h
     by_cases hj:j=0
     .rw[aC hj]at h;cases h
     .rw[ah hj]at h
      by_cases a:j % 2=1
      .rw[aC a,Tr.fO]at h;cases h
      .rw[ah a]at h
       rcases d _ _ _ h with⟨h1,b⟩|⟨_,b⟩
       .exact .inl ⟨by omega,b⟩
       .rw[Tr.fO]at b;cases b
  |n l v r=>
   rw[Tr.ZI]at h;rw[Tr.jS];by_cases hi:i=0
   .rw[aC hi,Tr.jS]at h
    by_cases hj:j=0
    .rw[aC hj]at h;exact .inl ⟨by omega,(aN h).symm⟩
    .rw[ah hj]at h ⊢;exact .inr ⟨by omega,h⟩
   .rw[ah hi]at h
    by_cases c:i % 2=1
    .rw[aC c,Tr.jS]at h
     by_cases hj:j=0
     .rw[aC hj]at h ⊢;exact .inr ⟨by omega,h⟩
     .rw[ah hj]at h ⊢
      by_cases a:j % 2=1
      .rw[aC a]at h ⊢
       rcases d _ _ _ h with⟨h1,b⟩|⟨h1,b⟩
       .exact .inl ⟨by omega,b⟩
       .exact .inr ⟨by intro e;exact h1 (by rw[e]),b⟩
      .rw[ah a]at h ⊢;exact .inr ⟨by intro e;rw[e]at a;exact a c,h⟩
    .rw[ah c,Tr.jS]at h
     by_cases hj:j=0
     .rw[aC hj]at h ⊢;exact .inr ⟨by omega,h⟩
     .rw[ah hj]at h ⊢
      by_cases a:j % 2=1
      .rw[aC a]at h ⊢;exact .inr ⟨by intro e;rw[e]at a;exact c a,h⟩
      .rw[ah a]at h ⊢
       rcases d _ _ _ h with⟨h1,b⟩|⟨h1,b⟩
       .exact .inl ⟨by omega,b⟩
       .exact .inr ⟨by intro e;exact h1 (by rw[e]),b⟩
theorem Tr.uD{x y:Z}{t:Tr Z}(h:(t.set i x).get j=some y):(j=i∧y=x)∨(j≠i∧t.get j=some y):=Tr.aaL x y _ t i j h
theorem Tr.Tm(x:Z):∀(f:Nat) (t:Tr Z) (i j:Nat),i+1<2 ^ f->(Tr.DT x f t i).get j=if j=i then some x else t.get j:=by
 intro f;induction f with
 |zero=>intro t i j h;simp at h
 |succ f d=>
  intro t i j h;rw[Nat.pow_succ]at h;have key:∀(l:Tr Z) (v:Option Z) (r:Tr Z),(∀k,l.get k=none∨True)->(if i=0 then Tr.n l (some x) r else if i % 2=1 then Tr.n (Tr.DT x f l (i / 2)) v r else Tr.n l v (Tr.DT x f r (i / 2 - 1))).get j=if j=i then some x else(Tr.n l v r).get j:=by
   intro l v r _;by_cases hi:i=0
   .subst hi
    rw[aC rfl,Tr.jS,Tr.jS];by_cases hj:j=0
    .rw[aC hj,aC hj]
    .rw[ah hj,ah hj,ah hj]
   .rw[ah hi]
    by_cases c:i % 2=1
    .rw[aC c,Tr.jS,Tr.jS]
     by_cases hj:j=0
     .rw[aC hj,ah (by omega),aC hj]
     .rw[ah hj,ah hj]
      by_cases a:j % 2=1
      .rw[aC a,aC a,d _ _ _ (by omega)]
       by_cases b:j=i
       .rw[aC (by rw[b]),aC b]
       .rw[ah (by omega),ah b]
      .rw[ah a,ah a,ah (by intro e;rw[e]at a;exact a c)]
    .rw[ah c,Tr.jS,Tr.jS]
     by_cases hj:j=0
     .rw[aC hj,ah (by omega),aC hj]
     .rw[ah hj,ah hj]
      by_cases a:j % 2=1
      .rw[aC a,aC a,ah (by intro e;rw[e]at a;exact c a)]
      .rw[ah a,ah a,d _ _ _ (by omega)]
       by_cases b:j=i
       .rw[aC (by rw[b]),aC b]
       .rw[ah (by omega),ah b]
  cases t with
  |e=>
   have:=key .e none .e (λ_=> .inr trivial);rw[Tr.ZJ,Tr.fO];have g:(Tr.n (α:=Z) .e none .e).get j=none:=by rw[Tr.jS,Tr.fO,Tr.fO];split<;>(try split)<;>rfl
   rw[g]at this;exact this
  |n l v r=>rw[Tr.ZI];exact key l v r (λ_=> .inr trivial)
theorem Tr.KN(t:Tr Z)(i j:Nat)(x:Z):(t.set i x).get j=if j=i then some x else t.get j:=
 Tr.Tm x _ t i j Nat.lt_log2_self
end
end
abbrev Nm:=Nat->Option (Nat×Nat)
mutual
def RV(ι:Nm):AV->Value->Prop
 | .any,_=>True
 | .one,v=>ZM v=true
 | .bool b,v=>v= .bool b
 | .int k x,v=>v= .int k x
 | .str s,v=>v= .string ⟨s.toArray⟩
 | .pO,v=>v= .pointer none
 | .ptr i o,v=>∃p,ι i=some p∧v= .pointer (some ⟨p.1,o,none⟩)
 | .aQ,v=>v= .slice none 0 0
 | .emp,v=>∃a c,v= .slice a 0 c
 | .sl i o l c,v=>∃p,ι i=some p∧∃cap,v= .slice (some ⟨p.1,o,none⟩) l cap∧l<=cap∧(∀k,c=some k->cap=k)∧(c=none->o=0->cap<=p.2)
 | .aO a n c,v=>∃s:Option Nat,v= .slice (a.map λp=>⟨p.1,p.2,s⟩) n c∧n<=c∧(a=none->n=0∧c=0)∧(n≠0->s=none)
 | .pF,v=>v= .map none
 | .map i,v=>∃p,ι i=some p∧v= .map (some p.1)
 | .um,v=>v= .nilFunc
 | .fn f a b,v=>∃as bs,v= .func (.func f) as bs∧dS ι a as.toList∧dS ι b bs.toList
 | .yield i,v=>∃p,ι i=some p∧v= .func (.yield p.1) #[] #[]
 | .uj,v=>v= .nilIface
 | .iface t a,v=>∃x,v= .iface t x∧RV ι a x
 | .agg l,v=>∃cs,v= .agg cs∧dS ι l cs.toList
 | .gI l,v=>∃cs,v= .tuple cs∧dS ι l cs.toList
def dS(ι:Nm):List AV->List Value->Prop
 |[],vs=>vs=[]
 |a::l,vs=>∃v r,vs=v::r∧RV ι a v∧dS ι l r
end
theorem dG{ι:Nm}:dS ι [] []:=by unfold dS;rfl
theorem cO{ι:Nm}{a:AV}{v:Value}{l:List AV}{r:List Value}(h:RV ι a v)(h':dS ι l r):dS ι (a::l) (v::r):=by
 unfold dS;exact⟨v,r,rfl,h,h'⟩
theorem bU{ι:Nm}{vs:List Value}(h:dS ι [] vs):vs=[]:=by unfold dS at h;exact h
theorem bf{ι:Nm}{a:AV}{l:List AV}{vs:List Value}(h:dS ι (a::l) vs):∃v r,vs=v::r∧RV ι a v∧dS ι l r:=by
 unfold dS at h;exact h
def Ext(ι ι':Nm):Prop:=∀i p,ι i=some p->ι' i=some p
theorem Ext.refl(ι:Nm):Ext ι ι:=λ_ _ h=>h
theorem Ext.trans{ι ι' a:Nm}(h:Ext ι ι')(h':Ext ι' a):Ext ι a:=λi p hi=>h' i p (h i p hi)
mutual
theorem RV.mono{ι ι':Nm}(d:Ext ι ι'):∀{a:AV} {v:Value},RV ι a v->RV ι' a v
 | .any,_,_=>by unfold RV;trivial
 | .one,_,h| .bool _,_,h| .int _ _,_,h| .str _,_,h| .pO,_,h| .aQ,_,h| .emp,_,h| .pF,_,h| .um,_,h| .uj,_,h| .aO _ _ _,_,h=>by
   unfold RV at h ⊢;exact h
 | .ptr i o,v,h=>by
   unfold RV at h ⊢;obtain⟨p,hi,e⟩:=h;exact⟨p,d _ _ hi,e⟩
 | .sl i o l c,v,h=>by
   unfold RV at h ⊢;obtain⟨p,hi,e⟩:=h;exact⟨p,d _ _ hi,e⟩
 | .map i,v,h=>by
   unfold RV at h ⊢;obtain⟨p,hi,e⟩:=h;exact⟨p,d _ _ hi,e⟩
 | .yield i,v,h=>by
   unfold RV at h ⊢;obtain⟨p,hi,e⟩:=h;exact⟨p,d _ _ hi,e⟩
 | .fn f a b,v,h=>by
   unfold RV at h ⊢;obtain⟨as,bs,e,h1,g⟩:=h;exact⟨as,bs,e,dS.mono d h1,dS.mono d g⟩
 | .iface t a,v,h=>by
   unfold RV at h ⊢;obtain⟨x,e,h1⟩:=h;exact⟨x,e,RV.mono d h1⟩
 | .agg l,v,h=>by
   unfold RV at h ⊢;obtain⟨x,e,h1⟩:=h;exact⟨x,e,dS.mono d h1⟩
 | .gI l,v,h=>by
   unfold RV at h ⊢;obtain⟨x,e,h1⟩:=h;exact⟨x,e,dS.mono d h1⟩
theorem dS.mono{ι ι':Nm}(b:Ext ι ι'):∀{l:List AV} {vs:List Value},dS ι l vs->dS ι' l vs
 |[],_,h=>by rw[bU h];exact dG
 |a::l,_,h=>by
  obtain⟨v,r,rfl,h1,c⟩:=bf h;exact cO (RV.mono b h1) (dS.mono b c)
end
section
variable{ι:Nm}
theorem dS.length{l:List AV}{vs:List Value}(h:dS ι l vs):l.length=vs.length:=by
 induction l generalizing vs with
 |nil=>rw[bU h];rfl
 |cons a l b=>obtain⟨v,r,rfl,_,c⟩:=bf h;simp[b c]
theorem dS.append{l m:List AV}{vs b:List Value}(h:dS ι l vs)(h':dS ι m b):dS ι (l++m) (vs++b):=by
 induction l generalizing vs with
 |nil=>rw[bU h];exact h'
 |cons a l c=>obtain⟨v,r,rfl,h1,d⟩:=bf h;exact cO h1 (c d)
theorem dS.get{l:List AV}{vs:List Value}(h:dS ι l vs){i:Nat}{a:AV}(hi:l[i]? =some a):∃v,vs[i]? =some v∧RV ι a v:=by
 induction l generalizing vs i with
 |nil=>simp at hi
 |cons b l c=>
  obtain⟨v,r,rfl,h1,d⟩:=bf h;cases i with
  |zero=>simp at hi;subst hi;exact⟨v,rfl,h1⟩
  |succ i=>simp at hi;simpa using c d hi
theorem dS.Ht{l:List AV}{vs:List Value}(c:l.length=vs.length)(h:∀(i:Nat) (a:AV) (v:Value),l[i]? =some a->vs[i]? =some v->RV ι a v):dS ι l vs:=by
 induction l generalizing vs with
 |nil=>cases vs with
  |nil=>exact dG
  |cons _ _=>simp at c
 |cons b l d=>cases vs with
  |nil=>simp at c
  |cons v r=>exact cO (h 0 b v rfl rfl) (d (by simpa using c) λi a x h1 e=>h (i+1) a x (by simpa using h1) (by simpa using e))
theorem dS.take{l:List AV}{vs:List Value}(h:dS ι l vs)(k:Nat):dS ι (l.take k) (vs.take k):=by
 refine dS.Ht (by simp[h.length]) λi a v h1 b=>?_;rw[iP]at h1 b;split at h1
 .rename_i c;rw[aC c]at b
  obtain⟨d,e,r⟩:=h.get h1;rw[e]at b;cases b;exact r
 .cases h1
theorem dS.drop{l:List AV}{vs:List Value}(h:dS ι l vs)(k:Nat):dS ι (l.drop k) (vs.drop k):=by
 refine dS.Ht (by simp[h.length]) λi a v h1 b=>?_;rw[kL]at h1 b;obtain⟨c,e,r⟩:=h.get h1;rw[e]at b;cases b;exact r
theorem dS.set{l:List AV}{vs:List Value}(h:dS ι l vs)(k:Nat){a:AV}{v:Value}(f:RV ι a v):dS ι (l.set k a) (vs.set k v):=by
 refine dS.Ht (by simp[h.length]) λi b u h1 c=>?_;rw[List.getElem?_set]at h1 c;split at h1
 .rename_i d;rw[aC d]at c
  split at h1
  .rename_i g;rw[aC (by rw[← h.length];exact g)]at c
   cases h1;cases c;exact f
  .cases h1
 .rename_i d;rw[ah d]at c
  obtain⟨j,e,r⟩:=h.get h1;rw[e]at c;cases c;exact r
theorem dS.map{α:Type}{l:List α}{f:α->AV}{g:α->Value}(h:∀x,x∈l->RV ι (f x) (g x)):dS ι (l.map f) (l.map g):=by
 induction l with
 |nil=>exact dG
 |cons a l b=>exact cO (h a (by simp)) (b λx c=>h x (by simp[c]))
theorem lZ:RV ι iw undef:=by unfold iw RV;exact⟨#[],rfl,dG⟩
theorem DL(v:Value):RV ι (uV v) v:=by
 unfold uV;split
 all_goals first
  |(unfold RV;rfl)
  |(unfold RV;trivial)
  |skip
 .rename_i f a b
  cases c:a.isEmpty<;>cases d:b.isEmpty<;>simp only[Bool.and_self,Bool.and_false,Bool.and_true,bG,bH]<;>first
   |(unfold RV;trivial)
   |(unfold RV
     simp only[Array.isEmpty_iff]at c d;subst c;subst d;exact⟨#[],#[],rfl,dG,dG⟩)
 .rename_i a
  cases c:a.isEmpty
  .simp only[bH];unfold RV;trivial
  .simp only[bG];unfold RV
   simp only[Array.isEmpty_iff]at c;subst c;exact⟨#[],rfl,dG⟩
theorem adB(v:Value):RV ι (ae4 v) v:=by
 unfold ae4;split
 .rename_i cs
  unfold RV;refine⟨cs,rfl,?_⟩;have:=dS.map (ι:=ι) (l:=cs.toList) (f:=uV) (g:=id) λx _=>DL x;simpa using this
 .exact DL v
theorem QW{v:Value}(h:ZM v=true):v.cells=#[v]:=by
 cases v<;>first|rfl|cases h
theorem RV.cells{a:AV}{v:Value}(h:RV ι a v)(b:a.isAny=false∨v.cells.size=1):dS ι a.cells v.cells.toList:=by
 cases a with
 |agg l=>
  unfold RV at h;obtain⟨cs,rfl,h⟩:=h;exact h
 |any=>
  rcases b with b|b
  .cases b
  .show dS ι [.any] _
   have:∃x,v.cells.toList=[x]:=by
    have c:v.cells.toList.length=1:=by simpa using b
    match v.cells.toList,c with
    |[x],_=>exact⟨x,rfl⟩
   obtain⟨x,d⟩:=this;rw[d];exact cO (by unfold RV;trivial) dG
 |one=>
  have e:ZM v=true:=by unfold RV at h;exact h
  rw[QW e];exact cO h dG
 |_=>
  have f:v.cells=#[v]:=by
   unfold RV at h
   first
    |(obtain rfl:=h;rfl)
    |(obtain⟨_,rfl⟩:=h;rfl)
    |(obtain⟨_,_,rfl⟩:=h;rfl)
    |(obtain⟨_,_,rfl,_⟩:=h;rfl)
    |(obtain⟨_,_,_,rfl,_⟩:=h;rfl)
    |(obtain⟨_,rfl,_⟩:=h;rfl)
    |(obtain⟨rfl,_⟩:=h;rfl)
  rw[f];exact cO h dG
end
def RT(ι:Nm)(nt:Nat)(tm:Tr AV)(tmps:Array Value):Prop:=tmps.size=nt∧∀t a,tm.get t=some a->RV ι a (tmps.getD t undef)
section
variable{ι:Nm}{Y:Nat}{X:Tr AV}{Z:Array Value}
theorem RT.mono{ι':Nm}(b:Ext ι ι')(h:RT ι Y X Z):RT ι' Y X Z:=⟨h.1,λt a c=>(h.2 t a c).mono b⟩
theorem RT.ev(h:RT ι Y X Z)(fr:Frame)(b:fr.tmps=Z)(x:Operand):RV ι (ev X x) (fr.eval x):=by
 cases x with
 |tmp t=>
  show RV ι (match X.get t with |some v=>v|none=> .any) (fr.tmps.getD t undef);rw[b];cases c:X.get t with
  |none=>unfold RV;trivial
  |some a=>exact h.2 t a c
 |const v=>exact adB v
 |global g=>unfold RV Ev.ev;trivial
 |func g=>
  show RV ι (.fn g [] []) (.func (.func g) #[] #[]);unfold RV;exact⟨#[],#[],rfl,dG,dG⟩
theorem RT.put(h:RT ι Y X Z){d:Nat}{a:AV}{v:Value}(j:RV ι a v):RT ι Y (X.set d (cond (Nat.blt d Y) a iw)) (Z.setIfInBounds d v):=by
 refine⟨by simpa using h.1,λt b k=>?_⟩;rcases Tr.uD k with⟨rfl,rfl⟩|⟨e,f⟩
 .by_cases c:t<Y
  .have g:Nat.blt t Y=true:=by rw[dB];exact c
   rw[g,bG];have:(Z.setIfInBounds t v).getD t undef=v:=by
    rw[bg,kN (by rw[h.1];exact c)];rfl
   rw[this];exact j
  .have g:Nat.blt t Y=false:=by cases i:Nat.blt t Y with |false=>rfl|true=>rw[dB]at i;exact aX i c
   rw[g,bH];have:(Z.setIfInBounds t v).getD t undef=undef:=by
    rw[bg,Array.getElem?_eq_none (by simp[h.1];omega)];rfl
   rw[this];exact lZ
 .have:(Z.setIfInBounds d v).getD t undef=Z.getD t undef:=by
   rw[bg,bg,bW (Ne.symm e)]
  rw[this];exact h.2 t b f
end
section
variable{T el:TypeId}{a:AV}{b hi i lo:Nat}{c:Array Value}{fz p:Nat×Nat}
structure Ctx where
 P:Program
 W0:World
 fz:Nat->Prop
 lo:Nat
 own:Nat->Prop
 nZ:∀b,lo<=b->own b
 peek:Prop
def zM(K:Ctx)(size:Nat)(e:Event):Prop:=
 match e.loc with
 | .cell a=>(¬K.fz a.block∧K.own a.block∨K.peek∧K.fz a.block∧e.write=false)∧a.block<size
 | .obj r=>¬K.fz r∧K.own r∧r<size∧e.sync=false
 | .mark m=>match m with
   | .acquire a| .release a| .releaseMerge a| .read a| .write a=>¬K.fz a.block∧K.own a.block∧a.block<size
   | .disable| .enable=>False
   |_=>True
 |_=>False
theorem zM.mono{K:Ctx}{s d:Nat}(h:s<=d){e:Event}(b:zM K s e):zM K d e:=by
 obtain⟨c,wr,f⟩:=e;cases c with
 |cell a=>exact⟨b.1,by have:=b.2;omega⟩
 |obj r=>exact⟨b.1,b.2.1,by have:=b.2.2.1;omega,b.2.2.2⟩
 |mark m=>cases m<;>first|exact⟨b.1,b.2.1,by have:=b.2.2;omega⟩|exact b|trivial
 |output=>exact b
 |goroutines=>exact b
def yG(ι:Nm):List AE->List MapEntry->Prop
 |[],es=>es=[]
 |a::l,es=>∃e r,es=e::r∧RV ι a.key e.key∧RV ι a.val e.val∧e.born=a.born∧yG ι l r
theorem yG.mono{ι ι':Nm}(b:Ext ι ι'){l:List AE}{es:List MapEntry}(h:yG ι l es):yG ι' l es:=by
 induction l generalizing es with
 |nil=>exact h
 |cons a l c=>
  obtain⟨e,r,rfl,h1,d,f,g⟩:=h;exact⟨e,r,rfl,h1.mono b,d.mono b,f,c g⟩
def AO.live:AO->Prop
 | .dead=>False
 |_=>True
def RO(P:Program)(ι:Nm)(cap:Nat):AO->Obj->Prop
 | .dead,_=>True
 | .cells vs el g fz,ob=>∃(c:Array Value) (lo hi:Nat),ob= .cells c el (lo,hi)∧(∃l1 l2,c.toList=l1++l2∧dS ι vs l1)∧
  (g=false->c.size=vs.length)∧(g=true->c.size=cap*P.cellsOf el)∧(fz=false->(∀o,o<c.size->¬(lo<=o∧o<hi))∧(g=false->lo=0∧hi=0))
 | .map es ck,ob=>∃e,ob= .map e ck∧yG ι es e.toList
 | .KE m s seen st,ob=>∃b,(∀j,m=some j->∃p,ι j=some p∧b=some p.1)∧(m=none->b=none)∧ob= .mapIter b s seen.toArray st
 | .sit s p,ob=>ob= .stringIter ⟨s.toArray⟩ p
 | .loop st f fn nt tm ps a b d,ob=>∃q,ι d=some q∧∃L:Loop,ob= .loop L∧L.state=st∧L.pending=f∧L.fn=fn∧RT ι nt tm L.tmps∧L.params.toList=ps∧L.assign=a∧L.body=b∧L.defers=q.1
 | .yU z,ob=>ob= .deferred (cond z none (some []))
theorem RO.mono{P:Program}{ι ι':Nm}{cap:Nat}(f:Ext ι ι'){o:AO}{ob:Obj}(h:RO P ι cap o ob):RO P ι' cap o ob:=by
 cases o with
 |dead=>trivial
 |cells vs el g fz=>
  obtain⟨c,lo,k,e,⟨l1,l2,e2,r⟩,h1,i,l⟩:=h;exact⟨c,lo,k,e,⟨l1,l2,e2,r.mono f⟩,h1,i,l⟩
 |map es ck=>obtain⟨n,e,h1⟩:=h;exact⟨n,e,h1.mono f⟩
 |KE m s seen st=>
  obtain⟨b,h1,i,e⟩:=h;exact⟨b,λj hj=>by obtain⟨p,hp,t⟩:=h1 j hj;exact⟨p,f _ _ hp,t⟩,i,e⟩
 |sit s p=>exact h
 |loop st C fn nt tm ps a b d=>
  obtain⟨q,u,L,e,h1,i,l,v,x,y,A,B⟩:=h;exact⟨q,f _ _ u,L,e,h1,i,l,v.mono f,x,y,A,B⟩
 |yU z=>exact h
def dR:Nm:=λi=>if OLD<=i then some (i - OLD,0)else none
theorem Dk(b:Nat):dR (OLD+b)=some (b,0):=by
 unfold dR;rw[aC (gY _ _),nO]
structure Of(K:Ctx)(P:Program)(E:Env):Prop where
 P:K.P=P
 mem:∀b o a,E.old b o=some a->K.peek∧K.fz b∧∃v,K.W0.cell? ⟨b,o,none⟩=some v∧RV dR a v
 pk:E.peek=true->K.peek
structure Sat(K:Ctx)(ι:Nm)(h:AH)(w:World):Prop where
 objs:∀i o,h.tr.get i=some o->o.live->∃p ob,ι i=some p∧¬K.fz p.1∧K.own p.1∧w.heap[p.1]? =some ob∧RO K.P ι p.2 o ob
 inj:∀i j o o' p q,h.tr.get i=some o->h.tr.get j=some o'->o.live->o'.live->ι i=some p->ι j=some q->p.1=q.1->i=j
 lo:K.lo<=w.heap.size
 bs:∀b,K.fz b->b<w.heap.size
 old:∀b,K.fz b->w.heap[b]? =K.W0.heap[b]?
 os:w.os=K.W0.os
 tape:w.tape=K.W0.tape
 output:w.output=K.W0.output
 kV:K.peek->Ext dR ι
structure kP(K:Ctx)(w w':World)(es:List Event):Prop where
 size:w.heap.size<=w'.heap.size
 kept:∀b,b<w.heap.size->¬(¬K.fz b∧K.own b)->w'.heap[b]? =w.heap[b]?
 evs:∀e∈es,zM K w'.heap.size e
theorem AH.uO{h:AH}{o:AO}(e:h.obj i=o)(b:o.live):h.tr.get i=some o:=by
 unfold AH.obj at e;cases a:h.tr.get i with
 |none=>rw[a]at e;subst e;exact b.elim
 |some p=>rw[a]at e;simp at e;rw[e]
section
variable{K:Ctx}{ι:Nm}{h:AH}{w:World}
theorem Sat.at(S:Sat K ι h w){i:Nat}{o:AO}(e:h.obj i=o)(a:o.live):
 ∃p ob,ι i=some p∧¬K.fz p.1∧K.own p.1∧p.1<w.heap.size∧w.heap[p.1]? =some ob∧RO K.P ι p.2 o ob:=by
 obtain⟨p,ob,h1,c,d,b,f⟩:=S.objs i o (AH.uO e a) a;refine⟨p,ob,h1,c,d,?_,b,f⟩;have:=b;rw[aV]at this;exact this.1
theorem cell_of{o:Nat}(a:w.heap[b]? =some (.cells c T fz)):w.cell? ⟨b,o,none⟩=c[o]? :=by
 unfold World.cell?;simp[a]
theorem Ig{o:Nat}(a:w.heap[b]? =some (.cells c T (lo,hi))):w.frozen? ⟨b,o,none⟩=(decide (lo<=o)&&decide (o<hi)):=by
 unfold World.frozen?;simp[a]
theorem Sat.cell(S:Sat K ι h w)(hp:ι i=some p){vs:List AV}{g z:Bool}(e:h.obj i= .cells vs el g z){o:Nat}(d:vs[o]? =some a):
 ∃v,w.cell? ⟨p.1,o,none⟩=some v∧RV ι a v:=by
 obtain⟨q,ob,b,_,_,_,f,c,lo,hi,rfl,⟨l1,l2,j,k⟩,_⟩:=S.at e trivial;obtain rfl:p=q:=by rw[hp]at b;exact aN b
 obtain⟨v,h1,l⟩:=k.get d;refine⟨v,?_,l⟩;rw[cell_of f,← bI,j,aW]
 .exact h1
 .have:=h1;rw[aA]at this;exact this.1
theorem Sat.drawn(S:Sat K ι h w)(d:Nat):Sat K ι h { w with drawn:=d }:=
 ⟨S.objs,S.inj,S.lo,S.bs,S.old,S.os,S.tape,S.output,S.kV⟩
end
structure VY(P:Program)(t:TypeId)(ti:TI):Prop where
 info:∃i z,P.info? t=some i∧i.size=ti.size∧i.bytes=ti.bytes∧i.zero=some z∧(∀ι,RV ι ti.zeroV z)∧(∀ι,dS ι ti.zero z.cells.toList)∧z.cells.size=ti.size∧ti.zero.length=ti.size
 desc:∃d,P.underlying t=some d∧match ti.d,d with
  | .bool,.bool=>True
  | .int k,.int k'=>k=k'
  | .str,.string=>True
  | .ptr e,.pointer e'=>e=e'
  | .slice e,.slice e'=>e=e'
  | .map k e,.map k' e'=>k=k'∧e=e'∧∃kd,P.underlying k=some kd
  | .func,.func _ _ _=>True
  | .iface b,.interface ms=>b=ms.isEmpty
  | .struct fs,.struct gs=>fs.length=gs.size∧∀(i:Nat) (x:Nat×Nat×TypeId) (g:Field),fs[i]? =some x->gs[i]? =some g->x.1=g.offset∧x.2.2=g.type∧∃gi,P.info? g.type=some gi∧gi.size=x.2.1
  | .array n e,.array n' e'=>n=n'∧e=e'
  | .Oq,.unsafePointer=>True
  | .tuple,.tuple _=>True
  |_,_=>False
end
section
variable{E:Env}{a x:AV}{b i n off:Nat}{l:List AV}{p:Nat×Nat}
structure Fits(P:Program)(E:Env):Prop where
 depth:1<=P.depth
 RU:∀t m g,(t,m,g)∈E.RU->∀(v:Value) (w:World),ak P (method (P.types.size+Made.depth) t v m) w (g,v) w []
 lies:∀el u,(el,u)∈E.lies->liesAt P P.depth el 1 0 u 1=true
 tt:∀t ti,E.tt.get t=some ti->VY P t ti
 flat:∀t ks,(t,ks)∈E.flat->∃gs,P.underlying t=some gs∧∀(x:Array Value) (l:List AV) (ι:Nm) (w:World),dS ι l x.toList->uT ks l=true->
  (∀b,ak P (Instr.checkKey b 10000 t (.agg x)) w () w [])∧
  ∀(y:Array Value) (m:List AV) (r:Bool),dS ι m y.toList->D6 l m=some r->
  ∀(o1 o2:Operand),∀op,(op=BinOp.eql∨op=BinOp.neq)->ak P (eqGuard op t o1 o2 (.agg x) (.agg y)) w () w []∧ak P (Op.equal t (.agg x) (.agg y)) w r w []
theorem Fits.wZ{P:Program}{E:Env}(F:Fits P E){t:TypeId}{l:List AV}(h:wZ E t l=true):
 ∃a,P.underlying t=some a∧∀(x:Array Value) (ι:Nm) (w:World),dS ι l x.toList->
 (∀b,ak P (Instr.checkKey b 10000 t (.agg x)) w () w [])∧
 ∀(y:Array Value) (m:List AV) (r:Bool),dS ι m y.toList->D6 l m=some r->
 ∀(c d:Operand),∀op,(op=BinOp.eql∨op=BinOp.neq)->ak P (eqGuard op t c d (.agg x) (.agg y)) w () w []∧ak P (Op.equal t (.agg x) (.agg y)) w r w []:=by
 unfold Ev.wZ at h;rw[List.any_eq_true]at h;obtain⟨p,hp,h⟩:=h;rw[aF]at h;obtain⟨h1,f⟩:=h;obtain⟨g,ks⟩:=p;have e:g=t:=au h1;subst e;obtain⟨a,i,j⟩:=F.flat _ _ hp;exact⟨a,i,λx ι w k=>j x l ι w k f⟩
section
variable{P:Program}{K:Ctx}{Z:Nm}{h:AH}{w:World}
theorem oM(b o k:Nat):(⟨b,o,none⟩:Addr).add k=⟨b,o+k,none⟩:=by
 unfold Addr.add;split
 .rename_i h;subst h;rfl
 .rfl
theorem xK{t:TypeId}{ti:TI}(H:VY P t ti):ak P (isAgg t) w ti.isAgg w []:=by
 obtain⟨d,b,a⟩:=H.desc;unfold isAgg;refine ak.bind (e1:=[]) (ak.underlying b) ?_;unfold TI.isAgg;cases h1:ti.d<;>rw[h1]at a<;>cases d<;>first
  |exact a.elim
  |exact ak.pure _
theorem dW{t:TypeId}{ti:TI}(H:VY P t ti):ak P (sizeOf t) w ti.size w []:=by
 obtain⟨i,z,hi,a,_⟩:=H.info;rw[← a];exact ak.sizeOf hi
theorem wP{r:List AV}(e:takeN l off n=some r):r=(l.drop off).take n∧r.length=n:=by
 unfold takeN at e;cases a:Nat.beq ((l.drop off).take n).length n with
 |false=>simp only[a,bH]at e;cases e
 |true=>
  simp only[a,bG,dh]at e;exact⟨e.symm,by rw[← e];exact au a⟩
theorem xM{b off:Nat}:∀(n k:Nat) (acc:Array Value) (vs:List Value),vs.length=n->(∀j v,vs[j]? =some v->w.cell? ⟨b,off+(k+j),none⟩=some v)->
 ∃es,ak P (loadCellsFrom ⟨b,off,none⟩ k n acc) w (acc++vs.toArray) w es∧∀e∈es,∃o,e=⟨.cell ⟨b,o,none⟩,false,false⟩
 |0,k,acc,vs,d,_=>by
  obtain rfl:vs=[]:=bM.1 d;refine⟨[],?_,by simp⟩;unfold loadCellsFrom;simpa using ak.pure acc
 |n+1,k,acc,v::vs,d,f=>by
  have h0:=f 0 v rfl;obtain⟨es,h1,g⟩:=xM n (k+1) (acc.push v) vs (by simpa using d) λj u i=>by
   have:=f (j+1) u (by simpa using i);rw[show off+(k+1+j)=off+(k+(j+1))by omega];exact this
  refine⟨[⟨.cell ⟨b,off+k,none⟩,false,false⟩]++es,?_,?_⟩
  .unfold loadCellsFrom
   refine ak.bind (w1:=w) (a:=v) ?_ ?_
   .rw[oM];exact ak.load h0
   .have:acc++(v::vs).toArray=acc.push v++vs.toArray:=by simp
    rw[this];exact h1
  .intro e c
   rcases bQ.1 c with c|c
   .simp at c;subst c;exact⟨off+k,rfl⟩
   .exact g e c
theorem Dn{old:Nat->Nat->Option AV}{b:Nat}:∀(n off:Nat) {r:List AV},iI old b off n=some r->r.length=n∧∀j a,r[j]? =some a->old b (off+j)=some a
 |0,off,r,e=>by cases e;exact⟨rfl,by simp⟩
 |n+1,off,r,e=>by
  unfold iI at e;split at e
  .rename_i v l h1 c
   cases e;obtain⟨k1,d⟩:=Dn n (off+1) c;refine⟨by simp[k1],λj a hj=>?_⟩;cases j with
   |zero=>simp at hj;subst hj;exact h1
   |succ j=>simp at hj;have:=d j a hj;rw[← this];congr 1;omega
  .cases e
theorem Sat.OY(S:Sat K Z h w)(d:Of K P E){o:Nat}(e:E.old b o=some a):∃v,w.cell? ⟨b,o,none⟩=some v∧RV Z a v∧K.peek∧K.fz b:=by
 obtain⟨h1,c,v,f,g⟩:=d.mem b o a e;refine⟨v,?_,g.mono (S.kV h1),h1,c⟩;rw[← f];unfold World.cell?;rw[S.old b c]
theorem Xd(S:Sat K Z h w)(a:K.peek)(hp:Z i=some p)(hi:OLD<=i):p=(i - OLD,0):=by
 have:=S.kV a i (i - OLD,0) (by unfold dR;rw[aC hi]);rw[hp]at this;exact aN this
theorem Sat.jA(S:Sat K Z h w){E:Env}(o:Of K P E){i off n:Nat}{p:Nat×Nat}(hp:Z i=some p){r:List AV}(e:jA E h i off n=some r):
 ∃vs:List Value,vs.length=n∧dS Z r vs∧(∀j v,vs[j]? =some v->w.cell? ⟨p.1,off+j,none⟩=some v)∧(vs≠[]->(¬K.fz p.1∧K.own p.1∨K.peek∧K.fz p.1)∧p.1<w.heap.size):=by
 unfold Ev.jA at e;cases f:Nat.ble OLD i with
 |true=>
  rw[f,bG]at e;obtain⟨k1,b⟩:=Dn n off e;by_cases k:r=[]
  .subst k
   exact⟨[],by simpa using k1,dG,by simp,λh=>aX rfl h⟩
  have s:K.peek:=by
   match r,b,k with
   |[],_,h=>exact aX rfl h
   |a::l,b,_=>exact(o.mem _ _ _ (b 0 a rfl)).1
  obtain rfl:=Xd S s hp (aJ f);have:∀(l:List AV) (off:Nat),(∀j a,l[j]? =some a->E.old (i - OLD) (off+j)=some a)->∃vs:List Value,vs.length=l.length∧dS Z l vs∧∀j v,vs[j]? =some v->w.cell? ⟨i - OLD,off+j,none⟩=some v:=by
   intro l;induction l with
   |nil=>intro _ _;exact⟨[],rfl,dG,by simp⟩
   |cons a l C=>
    intro off y;obtain⟨v,d,g2,_⟩:=S.OY o (y 0 a rfl);obtain⟨vs,t,D,F⟩:=C (off+1) (λj a hj=>by have:=y (j+1) a (by simpa using hj);rw[← this];congr 1;omega);refine⟨v::vs,by simp[t],cO g2 D,λj u hj=>?_⟩;cases j with
    |zero=>simp at hj;subst hj;exact d
    |succ j=>simp at hj;have:=F j u hj;rw[← this];congr 2;omega
  obtain⟨vs,d,g2,t⟩:=this r off b;refine⟨vs,by rw[d,k1],g2,t,λx=>?_⟩
  match r,b,d with
  |[],_,d=>exact aX (bM.1 d) x
  |a::l,b,_=>
   obtain⟨_,_,_,h1,m⟩:=S.OY o (b 0 a rfl);exact⟨.inr ⟨h1,m⟩,S.bs _ m⟩
 |false=>
 rw[f,bH]at e;split at e
 .rename_i vs el g z G
  obtain⟨hr,H⟩:=wP e;obtain⟨q,ob,A,m,I,J,f,c,lo,hi,rfl,⟨l1,l2,L,B⟩,_⟩:=S.at G trivial;obtain rfl:p=q:=by rw[hp]at A;exact aN A
  refine⟨(l1.drop off).take n,?_,?_,?_,λ_=>⟨.inl ⟨m,I⟩,J⟩⟩
  .rw[← H,hr];simp[B.length]
  .rw[hr];exact(B.drop off).take n
  .intro j v hj
   rw[cell_of f,← bI,L];rw[iP]at hj;split at hj
   .rw[kL]at hj
    rw[aW]
    .exact hj
    .rw[aA]at hj;exact hj.1
   .cases hj
 .cases e
theorem Zp{v:Value}(b:RV Z x v):RV Z (unB x) v:=by
 cases x with
 |aO a n c=>
  cases a with
  |none=>
   unfold RV at b;obtain⟨s,rfl,h1,d,e⟩:=b;obtain⟨rfl,rfl⟩:=d rfl;show RV Z .aQ _;unfold RV;rfl
  |some p=>exact b
 |_=>exact b
theorem Ee(S:Sat K Z h w)(e:Of K P E){v:Value}(b:RV Z x v):RV Z (nP E x) v:=by
 cases x with
 |aO a n c=>
  unfold RV at b;obtain⟨s,rfl,h1,f,g⟩:=b;cases a with
  |none=>
   obtain⟨rfl,rfl⟩:=f rfl;show RV Z .aQ _;unfold RV;rfl
  |some p=>
   show RV Z (cond E.peek (cond (Nat.beq n 0) .emp (.sl (OLD+p.1) p.2 n (some c))) .any) _;cases hp:E.peek with
   |false=>rw[bH];unfold RV;trivial
   |true=>
    rw[bG];cases n with
    |zero=>
     show RV Z .emp _;unfold RV;exact⟨_,_,rfl⟩
    |succ n=>
    obtain rfl:=g (Nat.succ_ne_zero n);show RV Z (.sl (OLD+p.1) p.2 (n+1) (some c)) _;unfold RV;refine⟨(p.1,0),S.kV (e.pk hp) _ _ (Dk _),c,rfl,h1,λk d=>by cases d;rfl,λd=>by cases d⟩
 |_=>exact b
theorem nN(S:Sat K Z h w){E:Env}(f:Of K P E){i off n:Nat}{p:Nat×Nat}(hp:Z i=some p){r:List AV}(e:jA E h i off n=some r):
 ∃(vs:Array Value) (es:List Event),ak P (loadCells ⟨p.1,off,none⟩ n) w vs w es∧dS Z r vs.toList∧vs.size=n∧∀e∈es,zM K w.heap.size e:=by
 obtain⟨vs,a,d,g,k⟩:=S.jA f hp e;obtain⟨es,hr,l⟩:=xM (P:=P) (w:=w) (b:=p.1) (off:=off) n 0 #[] vs a λj v hj=>by simpa using g j v hj
 cases vs with
 |nil=>
  simp at a;subst a;refine⟨#[],[],?_,by simpa using d,rfl,by simp⟩;unfold loadCells loadCellsFrom;exact ak.pure _
 |cons v0 c=>
 obtain⟨m,q⟩:=k (by simp);refine⟨(v0::c).toArray,es,by unfold loadCells;simpa using hr,by simpa using d,by simpa using a,λe s=>?_⟩;obtain⟨o,rfl⟩:=l e s;exact⟨m.imp id λh=>⟨h.1,h.2,rfl⟩,q⟩
theorem Jm(S:Sat K Z h w){i off n:Nat}{p:Nat×Nat}(hp:Z i=some p){vs:List AV}{el:TypeId}{g z:Bool}(m:h.obj i= .cells vs el g z){r:List AV}(e:takeN vs off n=some r):
 ∃(vs:Array Value) (es:List Event),ak P (loadCells ⟨p.1,off,none⟩ n) w vs w es∧dS Z r vs.toList∧vs.size=n∧∀e∈es,zM K w.heap.size e:=by
 obtain⟨hr,s⟩:=wP e;obtain⟨q,ob,f,t,u,x,y,c,lo,hi,rfl,⟨l1,l2,A,k⟩,_⟩:=S.at m trivial;obtain rfl:p=q:=by rw[hp]at f;exact aN f
 have l:((l1.drop off).take n).length=n:=by rw[← s,hr];simp[k.length]
 have a:∀j v,((l1.drop off).take n)[j]? =some v->w.cell? ⟨p.1,off+j,none⟩=some v:=by
  intro j v hj;rw[cell_of y,← bI,A];rw[iP]at hj;split at hj
  .rw[kL]at hj
   rw[aW]
   .exact hj
   .rw[aA]at hj;exact hj.1
  .cases hj
 obtain⟨es,d,B⟩:=xM (P:=P) (w:=w) (b:=p.1) (off:=off) n 0 #[] ((l1.drop off).take n) l λj v hj=>by simpa using a j v hj
 refine⟨((l1.drop off).take n).toArray,es,by unfold loadCells;simpa using d,by rw[hr];simpa using(k.drop off).take n,by simpa using l,λe C=>?_⟩;obtain⟨o,rfl⟩:=B e C;exact⟨.inl ⟨t,u⟩,x⟩
theorem Gr(S:Sat K Z h w){E:Env}(k:Of K P E)(F:Fits P E){t:TypeId}{i off:Nat}{p:Nat×Nat}(hp:Z i=some p){a:AV}(e:loadT E h t i off=some a):
 ∃v es,ak P (loadVar t ⟨p.1,off,none⟩) w v w es∧RV Z a v∧∀e∈es,zM K w.heap.size e:=by
 unfold loadT at e;cases l:E.tt.get t with
 |none=>rw[l]at e;cases e
 |some ti=>
  rw[l]at e;have H:=F.tt t ti l;unfold loadVar;cases b:ti.isAgg with
  |true=>
   simp only[b,bG]at e;cases m:Ev.jA E h i off ti.size with
   |none=>rw[m]at e;cases e
   |some r=>
    rw[m]at e;simp at e;subst e;obtain⟨vs,es,h1,c,o,j⟩:=nN (P:=P) S k hp m;refine⟨.agg vs,es,?_,by unfold RV;exact⟨vs,rfl,c⟩,j⟩;refine ak.aG (xK (w:=w) H) ?_;rw[b,aC rfl];refine ak.aG (dW (w:=w) H) ?_;have y:=ak.bind h1 (ak.pure (P:=P) (w:=w) (Value.agg vs)) (f:=λx=>Pure.pure (Value.agg x));simpa using y
  |false=>
   simp only[b,bH]at e;cases n:Nat.ble OLD i with
   |true=>
    rw[n,bG]at e;obtain rfl:=Xd S (k.mem _ _ _ e).1 hp (aJ n);obtain⟨v,h1,c,o,j⟩:=S.OY k e;refine⟨v,[⟨.cell ⟨i - OLD,off,none⟩,false,false⟩],?_,c,by intro e d;simp at d;subst d;exact⟨.inr ⟨o,j,rfl⟩,S.bs _ j⟩⟩;refine ak.aG (xK (w:=w) H) ?_;rw[b,ah (by decide)];exact ak.load h1
   |false=>
   rw[n,bH]at e;split at e
   .rename_i vs el g z s
    obtain⟨v,h1,c⟩:=S.cell hp s e;obtain⟨q,ob,u,A,B,C,_⟩:=S.at s trivial;obtain rfl:p=q:=by rw[hp]at u;exact aN u
    refine⟨v,[⟨.cell ⟨p.1,off,none⟩,false,false⟩],?_,c,by intro e d;simp at d;subst d;exact⟨.inl ⟨A,B⟩,C⟩⟩;refine ak.aG (xK (w:=w) H) ?_;rw[b,ah (by decide)];exact ak.load h1
   .cases e
end
end
section
variable{a x:AV}{e t:TypeId}{fs:List (Nat×Nat×TypeId)}{i:Nat}{l:List AV}{p:Nat×Nat}
def fZ(P:Program)(K:Ctx)(ι:Nm)(w:World)(s:Sem Value)(a:AV):Prop:=
 ∃v es,ak P s w v w es∧RV ι a v∧∀e∈es,zM K w.heap.size e
section
variable{P:Program}{K:Ctx}{Z:Nm}{h:AH}{w:World}{E:Env}
theorem fZ.pure{v:Value}{a:AV}(h:RV Z a v):fZ P K Z w (Pure.pure v) a:=⟨v,[],ak.pure v,h,by simp⟩
theorem fZ.aG{α:Type}{s:Sem α}{f:α->Sem Value}{x:α}{a:AV}(h1:ak P s w x w [])(b:fZ P K Z w (f x) a):fZ P K Z w (s>>=f) a:=by
 obtain⟨v,es,c,d,e⟩:=b;exact⟨v,es,by simpa using ak.bind h1 c,d,e⟩
theorem fZ.lC{α:Type}{s:Sem α}{f:α->Sem Value}{x:α}{a:AV}{e1:List Event}(h1:ak P s w x w e1)(c:∀e∈e1,zM K w.heap.size e)(d:fZ P K Z w (f x) a):fZ P K Z w (s>>=f) a:=by
 obtain⟨v,es,g,i,j⟩:=d;refine⟨v,e1++es,ak.bind h1 g,i,λe b=>?_⟩;rcases bQ.1 b with b|b
 .exact c e b
 .exact j e b
theorem F8{d:TD}(F:Fits P E)(e:E.d t=some d):∃ti,E.tt.get t=some ti∧ti.d=d∧VY P t ti:=by
 unfold Env.d at e;cases a:E.tt.get t with
 |none=>rw[a]at e;cases e
 |some ti=>rw[a]at e;simp at e;exact⟨ti,rfl,e,F.tt t ti a⟩
theorem eu(F:Fits P E)(b:E.d t=some (.slice e)):P.underlying t=some (.slice e):=by
 obtain⟨ti,_,c,H⟩:=F8 F b;obtain⟨d,f,a⟩:=H.desc;rw[c]at a;cases d<;>first|exact a.elim|(simp only at a;subst a;exact f)
theorem xB{k:Nat}(F:Fits P E)(b:E.d t=some (.array k e)):P.underlying t=some (.array k e):=by
 obtain⟨ti,_,c,H⟩:=F8 F b;obtain⟨d,f,a⟩:=H.desc;rw[c]at a;cases d<;>first|exact a.elim|(obtain⟨rfl,rfl⟩:=a;exact f)
theorem uU(F:Fits P E)(b:E.d t=some (.ptr e)):P.underlying t=some (.pointer e):=by
 obtain⟨ti,_,c,H⟩:=F8 F b;obtain⟨d,f,a⟩:=H.desc;rw[c]at a;cases d<;>first|exact a.elim|(simp only at a;subst a;exact f)
theorem lW{k:TypeId}(F:Fits P E)(b:E.d t=some (.map k e)):P.underlying t=some (.map k e)∧∃c,P.underlying k=some c:=by
 obtain⟨ti,_,f,H⟩:=F8 F b;obtain⟨d,g,a⟩:=H.desc;rw[f]at a;cases d<;>first|exact a.elim|(obtain⟨rfl,rfl,i⟩:=a;exact⟨g,i⟩)
theorem BR{k:IntKind}(F:Fits P E)(b:E.d t=some (.int k)):P.underlying t=some (.int k):=by
 obtain⟨ti,_,c,H⟩:=F8 F b;obtain⟨d,e,a⟩:=H.desc;rw[c]at a;cases d<;>first|exact a.elim|(simp only at a;subst a;exact e)
theorem qg(F:Fits P E)(b:E.d t=some .str):P.underlying t=some .string:=by
 obtain⟨ti,_,c,H⟩:=F8 F b;obtain⟨d,e,a⟩:=H.desc;rw[c]at a;cases d<;>first|exact a.elim|exact e
theorem NT(F:Fits P E)(b:E.d t=some .bool):P.underlying t=some .bool:=by
 obtain⟨ti,_,c,H⟩:=F8 F b;obtain⟨d,e,a⟩:=H.desc;rw[c]at a;cases d<;>first|exact a.elim|exact e
theorem wK(F:Fits P E)(b:E.d t=some .Oq):P.underlying t=some .unsafePointer:=by
 obtain⟨ti,_,c,H⟩:=F8 F b;obtain⟨d,e,a⟩:=H.desc;rw[c]at a;cases d<;>first|exact a.elim|exact e
theorem YT(F:Fits P E)(f:E.d t=some .func):∃a b c,P.underlying t=some (.func a b c):=by
 obtain⟨ti,_,g,H⟩:=F8 F f;obtain⟨d,i,e⟩:=H.desc;rw[g]at e;cases d<;>first|exact e.elim|exact⟨_,_,_,i⟩
theorem KY{b:Bool}(F:Fits P E)(c:E.d t=some (.iface b)):∃e,P.underlying t=some (.interface e):=by
 obtain⟨ti,_,f,H⟩:=F8 F c;obtain⟨d,g,a⟩:=H.desc;rw[f]at a;cases d<;>first|exact a.elim|exact⟨_,g⟩
theorem BQ(F:Fits P E)(f:E.d t=some (.struct fs)):∃a,P.underlying t=some (.struct a)∧
 ∀(i:Nat) (x:Nat×Nat×TypeId),fs[i]? =some x->∃g,a[i]? =some g∧x.1=g.offset∧x.2.2=g.type∧∃e,P.info? g.type=some e∧e.size=x.2.1:=by
 obtain⟨ti,_,j,H⟩:=F8 F f;obtain⟨d,k,b⟩:=H.desc;rw[j]at b;cases d<;>first|exact b.elim|skip
 rename_i a;obtain⟨l,m⟩:=b;refine⟨a,k,λi x c=>?_⟩;have hi:i<a.size:=by
  rw[← l];rw[aA]at c;exact c.1
 exact⟨a[i],by simp[hi],m i x a[i] c (by simp[hi])⟩
theorem Jg(F:Fits P E)(f:E.d t=some (.struct fs)){a:Array Field}(g:P.underlying t=some (.struct a))(k:Nat)(j:k<a.size):
 ∃i,P.info? a[k].type=some i:=by
 obtain⟨ti,_,l,H⟩:=F8 F f;obtain⟨d,c,e⟩:=H.desc;rw[l]at e;rw[g]at c;cases c;obtain⟨p,m⟩:=e;have b:k<fs.length:=by omega
 obtain⟨_,_,n,o,_⟩:=m k fs[k] a[k] (by simp[b]) (by simp[j]);exact⟨n,o⟩
theorem jF{o:Nat}{v:Value}(a:RV Z (.ptr i o) v):∃p,Z i=some p∧v= .pointer (some ⟨p.1,o,none⟩):=by unfold RV at a;exact a
theorem iK{k:IntKind}{x:Int}{v:Value}(a:RV Z (.int k x) v):v= .int k x:=by unfold RV at a;exact a
theorem nG{s:List UInt8}{v:Value}(a:RV Z (.str s) v):v= .string ⟨s.toArray⟩:=by unfold RV at a;exact a
theorem qQ{b:Bool}{v:Value}(a:RV Z (.bool b) v):v= .bool b:=by unfold RV at a;exact a
theorem sO{v:Value}(a:RV Z (.agg l) v):∃cs,v= .agg cs∧dS Z l cs.toList:=by unfold RV at a;exact a
theorem abW{v:Value}(a:RV Z (.gI l) v):∃cs,v= .tuple cs∧dS Z l cs.toList:=by unfold RV at a;exact a
theorem kE{o l:Nat}{c:Option Nat}{v:Value}(a:RV Z (.sl i o l c) v):∃p,Z i=some p∧∃cap,v= .slice (some ⟨p.1,o,none⟩) l cap∧l<=cap∧(∀k,c=some k->cap=k)∧(c=none->o=0->cap<=p.2):=by unfold RV at a;exact a
theorem zu{v:Value}(b:RV Z (.iface t a) v):∃x,v= .iface t x∧RV Z a x:=by unfold RV at b;exact b
theorem sH{v:Value}(a:RV Z (.map i) v):∃p,Z i=some p∧v= .map (some p.1):=by unfold RV at a;exact a
theorem yP{f:FuncId}{a b:List AV}{v:Value}(c:RV Z (.fn f a b) v):∃as bs,v= .func (.func f) as bs∧dS Z a as.toList∧dS Z b bs.toList:=by unfold RV at c;exact c
theorem nH{b:Bool}:RV Z (.bool b) (.bool b):=by unfold RV;rfl
theorem jU{k:IntKind}{x:Int}:RV Z (.int k x) (.int k x):=by unfold RV;rfl
theorem LU{s:List UInt8}:RV Z (.str s) (.string ⟨s.toArray⟩):=by unfold RV;rfl
theorem xO{o:Nat}(hi:Z i=some p):RV Z (.ptr i o) (.pointer (some ⟨p.1,o,none⟩)):=by unfold RV;exact⟨p,hi,rfl⟩
theorem Qj{cs:Array Value}(a:dS Z l cs.toList):RV Z (.agg l) (.agg cs):=by unfold RV;exact⟨cs,rfl,a⟩
theorem vM{cs:Array Value}(a:dS Z l cs.toList):RV Z (.gI l) (.tuple cs):=by unfold RV;exact⟨cs,rfl,a⟩
theorem ad3{op:UnOp}{v:Value}(e:unA op x=some a)(b:RV Z x v):fZ P K Z w (Op.unary op v) a:=by
 unfold unA at e;split at e
 .obtain rfl:=qQ b;cases e;exact fZ.pure nH
 .rename_i k x;obtain rfl:=iK b;cases e
  show fZ P K Z w (Op.intArith .sub k 0 x) _;exact fZ.pure jU
 .rename_i k x;obtain rfl:=iK b;cases e
  show fZ P K Z w (Op.intBits .xor k (if k.signed then -1 else k.max) x) _;have:(if k.signed=true then(-1:Int)else k.max)=cond k.signed (-1) k.max:=by cases k.signed<;>rfl
  rw[this];exact fZ.pure jU
 .cases e
theorem TF{v:Value}(e:BL x i=some a)(b:RV Z x v):fZ P K Z w (Instr.extract v i) a:=by
 unfold BL at e;split at e
 .obtain⟨cs,rfl,c⟩:=abW b
  obtain⟨u,h1,d⟩:=c.get e;unfold Instr.extract;simp only[← bI,h1];exact fZ.pure d
 .cases e
theorem MQ(F:Fits P E){s:TypeId}{v:Value}(e:xk E s x i=some a)(m:RV Z x v):fZ P K Z w (Instr.fieldAt s v i) a:=by
 unfold xk at e;split at e
 .rename_i y id off hd
  obtain⟨z,n,q⟩:=BQ F hd;obtain⟨p,hi,rfl⟩:=jF m;split at e
  .rename_i o size ty r
   obtain⟨g,c,h1,_,t,u,l⟩:=q i _ r;simp only at h1 l;cases d:Nat.beq size 0 with
   |true=>rw[d]at e;cases e
   |false=>
    rw[d]at e;simp only[bH,dh]at e;subst e;have j:¬t.size=0:=by rw[l];exact Nat.ne_of_beq_eq_false d
    unfold Instr.fieldAt;refine fZ.aG (ak.underlying n) ?_;simp only[c];refine fZ.aG (x:=⟨p.1,off,none⟩) (by unfold Instr.sureAddr;exact ak.pure _) ?_;refine fZ.aG (x:=⟨p.1,off+o,none⟩) ?_ (fZ.pure (xO hi));unfold fieldPlace;have:=ak.bind (e1:=[]) (e2:=[]) (ak.sizeOf (w:=w) u) (f:=λk=>if k=0 then partAt ⟨p.1,off,none⟩ g.offset g.byteOffset else Pure.pure ((⟨p.1,off,none⟩:Addr).add g.offset)) (b:=⟨p.1,off+o,none⟩) (w2:=w) (by
     rw[ah j,oM,← h1];exact ak.pure _)
    simpa using this
  .cases e
 .cases e
theorem Oj(F:Fits P E){u:TypeId}{l:List AV}{o:Nat}{a:AV}{cs:Array Value}(e:Xa E u l o=some a)(f:dS Z l cs.toList):∃v,ak P (part u cs o) w v w []∧RV Z a v:=by
 unfold Xa at e;cases c:E.tt.get u with
 |none=>rw[c]at e;cases e
 |some ti=>
  rw[c]at e;have H:=F.tt u ti c;unfold part;cases b:ti.isAgg with
  |true=>
   simp only[b,bG]at e;cases d:takeN l o ti.size with
   |none=>rw[d]at e;cases e
   |some r=>
    rw[d]at e;simp at e;subst e;obtain⟨hr,i⟩:=wP d;refine⟨.agg (cs.extract o (o+ti.size)),?_,Qj ?_⟩
    .refine ak.aG (xK H) ?_
     rw[b,aC rfl];exact ak.aG (dW H) (ak.pure _)
    .rw[hr]
     have:(cs.extract o (o+ti.size)).toList=(cs.toList.drop o).take ti.size:=by
      rw[Array.toList_extract,List.extract_eq_take_drop];simp
     rw[this];exact(f.drop o).take _
  |false=>
   simp only[b,bH]at e;obtain⟨v,h1,g⟩:=f.get e;refine⟨v,?_,g⟩;refine ak.aG (xK H) ?_;rw[b,ah (by decide)];simp only[← bI,h1];exact ak.pure v
theorem YM(F:Fits P E){v:Value}(e:KT E t x i=some a)(d:RV Z x v):fZ P K Z w (Instr.field t v i) a:=by
 unfold KT at e;split at e
 .rename_i r l f
  obtain⟨s,j,k⟩:=BQ F f;obtain⟨cs,rfl,m⟩:=sO d;split at e
  .rename_i o size ty n
   obtain⟨g,b,h1,c,_⟩:=k i _ n;simp only at h1 c;subst h1;subst c;unfold Instr.field;refine fZ.aG (ak.underlying j) ?_;simp only[b];refine fZ.aG (x:=cs) (by unfold asAgg;exact ak.pure _) ?_;obtain⟨u,p,q⟩:=Oj (w:=w) F e m;exact⟨u,[],p,q,by simp⟩
  .cases e
 .cases e
end
end
section
variable{α:Type}{a x:AV}{t:TypeId}{ti:TI}{u:Value}
section
variable{P:Program}{K:Ctx}{Z:Nm}{h:AH}{w:World}{E:Env}
theorem fJ{b:Bool}{x:α}{y:α}(e:cond b (some x) none=some y):b=true∧x=y:=by
 cases b with
 |true=>exact⟨rfl,aN e⟩
 |false=>cases e
theorem jf{b:Bool}{x:Option α}{y:α}(e:cond b x none=some y):b=true∧x=some y:=by
 cases b with
 |true=>exact⟨rfl,e⟩
 |false=>cases e
theorem dO{b:Bool}{x:Option α}{y:α}(e:cond b none x=some y):b=false∧x=some y:=by
 cases b with
 |true=>cases e
 |false=>exact⟨rfl,e⟩
theorem lI(F:Fits P E)(e:E.tt.get t=some ti):VY P t ti:=F.tt t ti e
theorem MK(F:Fits P E){i:AV}{v:Value}(e:aZ E t x i=some a)(f:RV Z x v)(g:RV Z i u):fZ P K Z w (Instr.indexAt t v u) a:=by
 unfold aZ at e;split at e
 .rename_i el id off len _ k n hd
  split at e
  .rename_i j d
   obtain⟨b,rfl⟩:=fJ e;have b:=dN b;have H:=lI F d;have c:=eu F hd;obtain⟨p,hp,cap,rfl,_⟩:=kE f;obtain rfl:=iK g;unfold Instr.indexAt;refine fZ.aG (x:=(k,n)) (ak.pure _) ?_;refine fZ.aG (ak.underlying c) ?_;refine fZ.aG (x:=(some ⟨p.1,off,none⟩,len,el)) (ak.pure _) ?_;refine fZ.aG (ak.underlying c) ?_;simp only[aC b];refine fZ.aG (dW H) ?_;rw[oM];exact fZ.pure (xO hp)
  .cases e
 .rename_i len el id off k n hd
  split at e
  .rename_i j d
   obtain⟨b,rfl⟩:=fJ e;have b:=dN b;have H:=lI F d;have c:=xB F hd;obtain⟨p,hp,rfl⟩:=jF f;obtain rfl:=iK g;unfold Instr.indexAt;refine fZ.aG (x:=(k,n)) (ak.pure _) ?_;refine fZ.aG (ak.underlying c) ?_;refine fZ.aG (x:=(some ⟨p.1,off,none⟩,len,el)) (ak.pure _) ?_;refine fZ.aG (ak.underlying c) ?_;simp only[aC b];refine fZ.aG (dW H) ?_;rw[oM];exact fZ.pure (xO hp)
  .cases e
 .cases e
theorem toList_mk(l:List UInt8):(⟨l.toArray⟩:ByteArray).toList=l:=by
 rw[ByteArray.toList_eq]
theorem size_mk(l:List UInt8):(⟨l.toArray⟩:ByteArray).size=l.length:=by
 show l.toArray.size=_;simp
theorem aeT(l:List UInt8)(i:Nat):(⟨l.toArray⟩:ByteArray)[i]? =l[i]? :=by
 by_cases hi:i<l.length
 .have h1:i<(⟨l.toArray⟩:ByteArray).size:=by rw[size_mk];exact hi
  rw[getElem?_pos (⟨l.toArray⟩:ByteArray) i h1,aI hi];rfl
 .have h1:¬i<(⟨l.toArray⟩:ByteArray).size:=by rw[size_mk];exact hi
  rw[getElem?_neg (⟨l.toArray⟩:ByteArray) i h1,mD (by omega)]
theorem YJ(F:Fits P E){i:AV}{v:Value}(e:Ag E t x i=some a)(g:RV Z x v)(j:RV Z i u):fZ P K Z w (Instr.index t v u) a:=by
 unfold Ag at e;split at e
 .rename_i s k n d
  obtain⟨c,e⟩:=jf e;have c:=dN c;obtain rfl:=nG g;obtain rfl:=iK j;cases f:s[n.toNat]? with
  |none=>rw[f]at e;cases e
  |some b=>
   rw[f]at e;simp only[kD,dh]at e;subst e;unfold Instr.index;refine fZ.aG (x:=(k,n)) (ak.pure _) ?_;refine fZ.aG (ak.underlying (qg F d)) ?_;simp only[aC c,aeT,f];exact fZ.pure jU
 .rename_i len el l k n d
  split at e
  .rename_i y m
   obtain⟨c,e⟩:=jf e;have c:=dN c;obtain⟨cs,rfl,o⟩:=sO g;obtain rfl:=iK j;obtain⟨r,p,q⟩:=Oj (w:=w) F e o;unfold Instr.index;refine fZ.aG (x:=(k,n)) (ak.pure _) ?_;refine fZ.aG (ak.underlying (xB F d)) ?_;simp only[aC c];exact fZ.aG (dW (lI F m)) ⟨r,[],p,q,by simp⟩
  .cases e
 .cases e
theorem MI(F:Fits P E){v:Value}(e:wX E t x=some a)(f:RV Z x v):fZ P K Z w (Instr.makeInterface t v) a:=by
 unfold wX at e;split at e
 .cases e
 .cases e
 .rename_i d b g
  cases e;obtain⟨ti,_,i,H⟩:=F8 F g;obtain⟨j,k,c⟩:=H.desc;rw[i]at c;unfold Instr.makeInterface;refine fZ.aG (ak.underlying k) ?_;have hr:RV Z (.iface t x) (.iface t v):=by unfold RV;exact⟨v,rfl,f⟩
  cases j<;>first
   |exact fZ.pure hr
   |skip
  rename_i l;cases d<;>first
   |exact c.elim
   |exact(b _ rfl).elim
theorem VK(F:Fits P E){s:TypeId}{v:Value}{ok:Bool}(e:Gi E t x ok=some a)(n:RV Z x v):fZ P K Z w (Instr.typeAssert v s t ok) a:=by
 unfold Gi at e;split at e
 .rename_i ti u y o
  have H:=lI F o;obtain⟨j,rfl,k⟩:=zu n;obtain⟨c,p,l⟩:=H.desc;unfold Instr.typeAssert;refine fZ.aG (ak.underlying p) ?_;split at e
  .cases e
  .rename_i f
   have key:∀c,(∀q,c≠TypeDesc.interface q)->fZ P K Z w (if u=t then(Pure.pure (if ok=true then Value.tuple #[j,.bool true]else j):Sem Value)else
    (if ok = true then (do Pure.pure (Value.tuple #[← zeroValue t, .bool false])) else runtimePanic (.typeAssertion (some s) (some u) t ""))) a := by
    intro c _;cases b:Nat.beq u t with
    |true=>
     rw[b,bG]at e;rw[aC (au b)];cases ok with
     |true=>cases e;exact fZ.pure (vM (cO k (cO nH dG)))
     |false=>cases e;exact fZ.pure k
    |false=>
     rw[b,bH]at e;rw[ah (λh=>by rw[h]at b;simp at b)];cases ok with
     |false=>cases e
     |true=>
      cases e;obtain⟨i,z,hi,_,_,r,g,_⟩:=H.info;exact fZ.aG (ak.zeroValue hi r) (fZ.pure (vM (cO (g Z) (cO nH dG))))
   cases m:ti.d<;>rw[m]at l<;>cases c<;>first
    |exact l.elim
    |exact(f _ m).elim
    |(simp only;exact key .bool (by simp))
 .cases e
end
end
section
variable{a x:AV}{o1 o2:Operand}{op:BinOp}{t:TypeId}{u:Value}
section
variable{P:Program}{K:Ctx}{Z:Nm}{h:AH}{w:World}{E:Env}
theorem LH{k:IntKind}{n:Int}(e:asInt x=some (k,n)):x= .int k n:=by
 unfold asInt at e;split at e
 .cases e;rfl
 .cases e
theorem LG{s:List UInt8}(e:NZ x=some s):x= .str s:=by
 unfold NZ at e;split at e
 .cases e;rfl
 .cases e
theorem nJ{k k':IntKind}(e:zq k k'=true):k=k':=by
 revert e;cases k<;>cases k'<;>decide
theorem Iy{k k':IntKind}{a b:Int}:ak P (eqGuard op t o1 o2 (.int k a) (.int k' b)) w () w []:=by
 unfold eqGuard;cases op<;>exact ak.pure _
theorem Iw{a b:ByteArray}:ak P (eqGuard op t o1 o2 (.string a) (.string b)) w () w []:=by
 unfold eqGuard;cases op<;>exact ak.pure _
theorem aaF{k:IntKind}{x y:Int}(c:op≠.shl∧op≠.shr)(e:Td op k x y=some a):fZ P K Z w (binOp op t (.int k x) (.int k y)) a:=by
 cases op<;>first
  |exact aX rfl c.1
  |exact aX rfl c.2
  |(simp only[Td,dh]at e
    subst e;simp only[binOp,ne_eq,not_true_eq_false,if_false]
    first
     |exact fZ.pure jU
     |exact fZ.pure nH)
  |(simp only[Td]at e
    obtain⟨b,e⟩:=dO e;cases e;have b:¬y=0:=by simpa using b
    simp only[binOp,ne_eq,not_true_eq_false,if_false,Op.intDiv,ah b];exact fZ.pure jU)
theorem YI{k k':IntKind}{x y:Int}(e:Pv op k x k' y=some a):fZ P K Z w (binOp op t (.int k x) (.int k' y)) a:=by
 by_cases h1:op= .shl
 .subst h1
  simp only[Pv]at e;obtain⟨b,e⟩:=dO e;cases e;have b:¬y<0:=by simpa using b
  simp only[binOp,Op.shift,ah b];exact fZ.pure jU
 .by_cases c:op= .shr
  .subst c
   simp only[Pv]at e;obtain⟨b,e⟩:=dO e;cases e;have b:¬y<0:=by simpa using b
   simp only[binOp,Op.shift,ah b];exact fZ.pure jU
  .have d:cond (zq k k') (Td op k x y) none=some a:=by
    cases op<;>first|exact aX rfl h1|exact aX rfl c|exact e
   obtain⟨f,e2⟩:=jf d;obtain rfl:=nJ f;exact aaF ⟨h1,c⟩ e2
theorem Yd{x y:List UInt8}(e:U2 op x y=some a):fZ P K Z w (binOp op t (.string ⟨x.toArray⟩) (.string ⟨y.toArray⟩)) a:=by
 have c:∀z:List UInt8,(⟨z.toArray⟩:ByteArray).toList=z:=toList_mk;cases op<;>simp only[U2]at e<;>first
  |(cases e;done)
  |(simp only[dh]at e
    subst e;simp only[binOp,Op.stringOp,c];exact fZ.pure nH)
  |(obtain⟨b,rfl⟩:=fJ e
    have b:=dN b;have:¬(((⟨x.toArray⟩:ByteArray).size+(⟨y.toArray⟩:ByteArray).size:Nat):Int)>IntKind.i64.max:=by
     rw[size_mk,size_mk];have d:IntKind.i64.max=9223372036854775807:=by decide
     rw[d];omega
    simp only[binOp,Op.stringOp,ah this];have f:(⟨x.toArray⟩:ByteArray)++⟨y.toArray⟩=⟨(x++y).toArray⟩:=by
     apply ByteArray.ext;simp
    rw[f];exact fZ.pure LU)
theorem EK(b o a:Nat):ak P (sameAddr ⟨b,o,none⟩ ⟨b,a,none⟩) w (Nat.beq o a) w []:=by
 unfold sameAddr;have:((⟨b,o,none⟩:Addr)==⟨b,a,none⟩)=Nat.beq o a:=by
  by_cases h:o=a
  .subst h;simp
  .have h1:Nat.beq o a=false:=by cases c:Nat.beq o a with |false=>rfl|true=>exact aX (au c) h
   rw[h1];simp[h]
 simp only[beq_self_eq_true,if_true];rw[this];exact ak.pure _
def Vh:Value->Bool
 | .int _ _| .float _ _| .complex _ _ _| .string _=>false
 |_=>true
theorem binOp_eql{v:Value}(hp:Vh v=true):binOp .eql t v u=(do pure (.bool (← Op.equal t v u))):=by
 cases v<;>first
  |exact aX hp Bool.false_ne_true
  |(cases u<;>rfl)
theorem binOp_neq{v:Value}(hp:Vh v=true):binOp .neq t v u=(do pure (.bool (!(← Op.equal t v u)))):=by
 cases v<;>first
  |exact aX hp Bool.false_ne_true
  |(cases u<;>rfl)
theorem TJ(F:Fits P E){op:BinOp}(H:op= .eql∨op= .neq){t:TypeId}{x y:AV}{v u:Value}{b:Bool}(e:NR E t x y=some b)(a:RV Z x v)(f:RV Z y u)(D G:Operand):
 ak P (eqGuard op t D G v u) w () w []∧ak P (Op.equal t v u) w b w []∧Vh v=true:=by
 have k:∀v u:Value,(v≠.nilIface∨u≠.nilIface)->((∀c,v≠.agg c)∨(∀c,u≠.agg c))->ak P (eqGuard op t D G v u) w () w []:=by
  intro v u h1 A;unfold eqGuard;rcases H with rfl|rfl<;>cases v<;>cases u<;>first
   |exact ak.pure _
   |(exfalso;rcases h1 with h|h<;>exact h rfl)
   |(exfalso;rcases A with h|h<;>exact h _ rfl)
 have R:∀d,P.underlying t=some d->∀r:Bool,ak P (Op.equalIn 10000 t v u) w r w []->ak P (Op.equal t v u) w r w []:=λ_ _ _ h=>h;unfold NR at e;split at e
 .
  rename_i o;split at e
  .obtain rfl:=qQ a;obtain rfl:=qQ f;cases e
   refine⟨k _ _ (by simp) (by simp),?_,rfl⟩;unfold Op.equal Op.maxDepth Op.equalIn;exact ak.aG (ak.underlying (NT F o)) (ak.pure _)
  .cases e
 .
  rename_i el o;have g:=uU F o;split at e
  .unfold RV at a f;subst a;subst f;cases e
   refine⟨k _ _ (by simp) (by simp),?_,rfl⟩;unfold Op.equal Op.maxDepth Op.equalIn;exact ak.aG (ak.underlying g) (ak.pure _)
  .unfold RV at a;subst a;obtain⟨p,_,rfl⟩:=jF f;cases e
   refine⟨k _ _ (by simp) (by simp),?_,rfl⟩;unfold Op.equal Op.maxDepth Op.equalIn;exact ak.aG (ak.underlying g) (ak.pure _)
  .unfold RV at f;subst f;obtain⟨p,_,rfl⟩:=jF a;cases e
   refine⟨k _ _ (by simp) (by simp),?_,rfl⟩;unfold Op.equal Op.maxDepth Op.equalIn;exact ak.aG (ak.underlying g) (ak.pure _)
  .rename_i i S j b'
   obtain⟨p,hp,rfl⟩:=jF a;obtain⟨q,N,rfl⟩:=jF f;obtain⟨B,rfl⟩:=fJ e;rw[aF]at B;obtain⟨h1,A⟩:=B;obtain rfl:=au h1;obtain rfl:p=q:=by rw[hp]at N;exact aN N
   split at A
   .rename_i ti I
    have J:¬ti.size=0:=λh0=>by rw[h0]at A;simp at A
    refine⟨k _ _ (by simp) (by simp),?_,rfl⟩;unfold Op.equal Op.maxDepth Op.equalIn;refine ak.aG (ak.underlying g) ?_;refine ak.aG (dW (lI F I)) ?_;rw[aC J];exact EK _ _ _
   .cases A
  .cases e
 .
  rename_i el o;have g:=eu F o;split at e
  .unfold RV at a f;subst a;subst f;cases e
   refine⟨k _ _ (by simp) (by simp),?_,rfl⟩;unfold Op.equal Op.maxDepth Op.equalIn;exact ak.aG (ak.underlying g) (ak.pure _)
  .unfold RV at a;subst a;obtain⟨p,_,c,rfl,_⟩:=kE f;cases e
   refine⟨k _ _ (by simp) (by simp),?_,rfl⟩;unfold Op.equal Op.maxDepth Op.equalIn;exact ak.aG (ak.underlying g) (ak.pure _)
  .unfold RV at f;subst f;obtain⟨p,_,c,rfl,_⟩:=kE a;cases e
   refine⟨k _ _ (by simp) (by simp),?_,rfl⟩;unfold Op.equal Op.maxDepth Op.equalIn;exact ak.aG (ak.underlying g) (ak.pure _)
  .unfold RV at a f;subst a;obtain⟨s,rfl,_⟩:=f;cases e
   refine⟨k _ _ (by simp) (by simp),?_,rfl⟩;unfold Op.equal Op.maxDepth Op.equalIn;exact ak.aG (ak.underlying g) (ak.pure _)
  .unfold RV at f a;subst f;obtain⟨s,rfl,_⟩:=a;cases e
   refine⟨k _ _ (by simp) (by simp),?_,rfl⟩;unfold Op.equal Op.maxDepth Op.equalIn;exact ak.aG (ak.underlying g) (ak.pure _)
  .cases e
 .
  rename_i T el o;have g:=(lW F o).1;split at e
  .unfold RV at a f;subst a;subst f;cases e
   refine⟨k _ _ (by simp) (by simp),?_,rfl⟩;unfold Op.equal Op.maxDepth Op.equalIn;exact ak.aG (ak.underlying g) (ak.pure _)
  .unfold RV at a;subst a;obtain⟨p,_,rfl⟩:=sH f;cases e
   refine⟨k _ _ (by simp) (by simp),?_,rfl⟩;unfold Op.equal Op.maxDepth Op.equalIn;exact ak.aG (ak.underlying g) (ak.pure _)
  .unfold RV at f;subst f;obtain⟨p,_,rfl⟩:=sH a;cases e
   refine⟨k _ _ (by simp) (by simp),?_,rfl⟩;unfold Op.equal Op.maxDepth Op.equalIn;exact ak.aG (ak.underlying g) (ak.pure _)
  .cases e
 .
  rename_i o;obtain⟨U,V,W,g⟩:=YT F o;split at e
  .unfold RV at a f;subst a;subst f;cases e
   refine⟨k _ _ (by simp) (by simp),?_,rfl⟩;unfold Op.equal Op.maxDepth Op.equalIn;exact ak.aG (ak.underlying g) (ak.pure _)
  .unfold RV at a;subst a;obtain⟨as,bs,rfl,_⟩:=yP f;cases e
   refine⟨k _ _ (by simp) (by simp),?_,rfl⟩;unfold Op.equal Op.maxDepth Op.equalIn;exact ak.aG (ak.underlying g) (ak.pure _)
  .unfold RV at f;subst f;obtain⟨as,bs,rfl,_⟩:=yP a;cases e
   refine⟨k _ _ (by simp) (by simp),?_,rfl⟩;unfold Op.equal Op.maxDepth Op.equalIn;exact ak.aG (ak.underlying g) (ak.pure _)
  .cases e
 .
  rename_i X o;obtain⟨Y,g⟩:=KY F o;split at e
  .unfold RV at a;subst a;obtain⟨O,rfl,_⟩:=zu f;cases e
   refine⟨k _ _ (by simp) (by simp),?_,rfl⟩;unfold Op.equal Op.maxDepth Op.equalIn;exact ak.aG (ak.underlying g) (ak.pure _)
  .unfold RV at f;subst f;obtain⟨O,rfl,_⟩:=zu a;cases e
   refine⟨k _ _ (by simp) (by simp),?_,rfl⟩;unfold Op.equal Op.maxDepth Op.equalIn;exact ak.aG (ak.underlying g) (ak.pure _)
  .cases e
 .
  rename_i fs o;split at e
  .rename_i l m
   obtain⟨B,e⟩:=jf e;obtain⟨cs,rfl,L⟩:=sO a;obtain⟨ds,rfl,M⟩:=sO f;obtain⟨Q,_,z⟩:=F.wZ B;have C:=(z cs Z w L).2 ds m b M e D G op H;exact⟨C.1,C.2,rfl⟩
  .cases e
 .
  rename_i n el o;split at e
  .rename_i l m
   obtain⟨B,e⟩:=jf e;obtain⟨cs,rfl,L⟩:=sO a;obtain⟨ds,rfl,M⟩:=sO f;obtain⟨Q,_,z⟩:=F.wZ B;have C:=(z cs Z w L).2 ds m b M e D G op H;exact⟨C.1,C.2,rfl⟩
  .cases e
 .cases e
theorem PZ(F:Fits P E){y:AV}{v:Value}(e:Ue E op t x y=some a)(g:RV Z x v)(i:RV Z y u)(j l:Operand):
 fZ P K Z w (do eqGuard op t j l v u;binOp op t v u) a:=by
 unfold Ue at e;cases o:asInt x with
 |some p=>
  obtain⟨k,n⟩:=p;simp only[o]at e;cases c:asInt y with
  |none=>rw[c]at e;cases e
  |some q=>
   obtain⟨k',m⟩:=q;simp only[c]at e;obtain rfl:=LH o;obtain rfl:=LH c;obtain rfl:=iK g;obtain rfl:=iK i;exact fZ.aG Iy (YI e)
 |none=>
  simp only[o]at e;cases d:NZ x with
  |some s=>
   simp only[d]at e;cases c:NZ y with
   |none=>rw[c]at e;cases e
   |some A=>
    simp only[c]at e;obtain rfl:=LG d;obtain rfl:=LG c;obtain rfl:=nG g;obtain rfl:=nG i;exact fZ.aG Iw (Yd e)
  |none=>
   simp only[d]at e;unfold adX at e;split at e
   .cases f:NR E t x y with
    |none=>rw[f]at e;cases e
    |some b=>
     rw[f]at e;cases e;obtain⟨h1,r,z⟩:=TJ (w:=w) F (.inl rfl) f g i j l;refine fZ.aG h1 ?_;rw[binOp_eql z];exact fZ.aG r (fZ.pure nH)
   .cases f:NR E t x y with
    |none=>rw[f]at e;cases e
    |some b=>
     rw[f]at e;cases e;obtain⟨h1,r,z⟩:=TJ (w:=w) F (.inr rfl) f g i j l;refine fZ.aG h1 ?_;rw[binOp_neq z];exact fZ.aG r (fZ.pure nH)
   .cases e
theorem D7{x y:Operand}(h:(Yv x||Yv y)=true):ak P (eqGuard op t x y .nilIface .nilIface) w () w []:=by
 have:(∃v,x= .const v)∨∃v,y= .const v:=by
  rw[iU]at h;rcases h with h|h
  .left;cases x<;>first|exact⟨_,rfl⟩|cases h
  .right;cases y<;>first|exact⟨_,rfl⟩|cases h
 unfold eqGuard;rcases this with⟨c,rfl⟩|⟨c,rfl⟩
 .cases op<;>exact ak.pure _
 .cases op<;>first
   |exact ak.pure _
   |(cases x<;>exact ak.pure _)
theorem ado(F:Fits P E){y:AV}{v:Value}(e:abw E op t o1 o2 x y=some a)(b:RV Z x v)(c:RV Z y u):
 fZ P K Z w (do eqGuard op t o1 o2 v u;binOp op t v u) a:=by
 unfold abw at e;cases d:(Yv o1||Yv o2)with
 |false=>rw[d]at e;exact PZ F e b c o1 o2
 |true=>
  rw[d]at e;simp only[bG]at e;split at e
  .split at e
   .split at e
    .rename_i j g
     obtain⟨k,i⟩:=KY F g;unfold RV at b c;subst b;subst c;have f:ak P (Op.equal t .nilIface .nilIface) w true w []:=by
      unfold Op.equal Op.maxDepth Op.equalIn;exact ak.aG (ak.underlying i) (ak.pure _)
     split at e
     .cases e
      refine fZ.aG (D7 d) ?_;rw[binOp_eql (by rfl)];exact fZ.aG f (fZ.pure nH)
     .cases e
      refine fZ.aG (D7 d) ?_;rw[binOp_neq (by rfl)];exact fZ.aG f (fZ.pure nH)
     .cases e
    .cases e
   .exact PZ F e b c o1 o2
  .exact PZ F e b c o1 o2
end
end
section
variable{a x:AV}{hi lo off size:Nat}{mx:Option AV}{p:Nat×Nat}{t ty:TypeId}{vhi vlo vmx:Option Value}
section
variable{P:Program}{K:Ctx}{Z:Nm}{h:AH}{w:World}{E:Env}
theorem ak.oz{r:Nat}{o:Obj}(a:w.heap[r]? =some o)(d:∀c e f,o≠.cells c e f)(g:o.isChan=false)(h1:¬K.fz r)(i:K.own r):
 ak P (Go.getObj r) w o w [⟨.obj r,false,false⟩]∧∀e∈[(⟨.obj r,false,false⟩:Event)],zM K w.heap.size e:=by
 have j:r<w.heap.size:=by rw[aV]at a;exact a.1
 refine⟨by have:=ak.getObj (P:=P) a d;rw[g]at this;exact this,λe b=>?_⟩;simp at b;subst b;exact⟨h1,i,j,rfl⟩
theorem aa9(F:Fits P E){s d:TypeId}{v:Value}(e:TW E s d x=some a)(f:RV Z x v):fZ P K Z w (convert s d v) a:=by
 unfold TW at e;split at e
 .rename_i i k k' n b c
  cases e;obtain rfl:=iK f;obtain⟨ti,_,_,H⟩:=F8 F b;obtain⟨j,g,_⟩:=H.desc;unfold convert;refine fZ.aG (ak.underlying g) ?_;refine fZ.aG (ak.underlying (BR F c)) ?_;exact fZ.pure jU
 .rename_i l b c
  cases e;obtain rfl:=nG f;unfold convert;refine fZ.aG (ak.underlying (qg F b)) ?_;refine fZ.aG (ak.underlying (qg F c)) ?_;exact fZ.pure LU
 .cases e
theorem yG.length{l:List AE}{es:List MapEntry}(hr:yG Z l es):l.length=es.length:=by
 induction l generalizing es with
 |nil=>rw[show es=[]from hr];rfl
 |cons a l b=>obtain⟨e,r,rfl,_,_,_,c⟩:=hr;simp[b c]
theorem acJ(u:K.P=P)(F:Fits P E)(S:Sat K Z h w){v:Value}(e:YE E h t x=some a)(f:RV Z x v):fZ P K Z w (Builtin.len_ #[t] ty #[v]) a:=by
 unfold YE at e;unfold Builtin.len_;split at e
 .rename_i s d
  cases e;obtain rfl:=nG f;refine fZ.aG (ak.underlying (qg F d)) ?_;have:(s.length:Int)=((⟨s.toArray⟩:ByteArray).size:Int):=by rw[size_mk]
  unfold int64;rw[this];exact fZ.pure jU
 .rename_i n y d
  cases e;refine fZ.aG (ak.underlying (xB F d)) ?_;exact fZ.pure jU
 .rename_i el d
  cases e;unfold RV at f;subst f;refine fZ.aG (ak.underlying (eu F d)) ?_;exact fZ.pure jU
 .rename_i el d
  cases e;unfold RV at f;obtain⟨b,c,rfl⟩:=f;refine fZ.aG (ak.underlying (eu F d)) ?_;exact fZ.pure jU
 .rename_i el a n c d
  cases e;unfold RV at f;obtain⟨_,rfl,_⟩:=f;refine fZ.aG (ak.underlying (eu F d)) ?_;exact fZ.pure jU
 .rename_i el id off n cap d
  cases e;obtain⟨p,_,c,rfl,_⟩:=kE f;refine fZ.aG (ak.underlying (eu F d)) ?_;exact fZ.pure jU
 .rename_i j el d
  cases e;unfold RV at f;subst f;refine fZ.aG (ak.underlying (lW F d).1) ?_;exact fZ.pure jU
 .rename_i j el id d
  split at e
  .rename_i es ck k
   cases e;obtain⟨p,hp,rfl⟩:=sH f;obtain⟨q,ob,i,l,m,z,o,g,rfl,hr⟩:=S.at k trivial;obtain rfl:p=q:=by rw[hp]at i;exact aN i
   obtain⟨r,g2⟩:=ak.oz (P:=P) (K:=K) o (by simp) rfl l m;refine fZ.aG (ak.underlying (lW F d).1) ?_;refine fZ.lC r g2 ?_;have:(es.length:Int)=(g.size:Int):=by rw[hr.length];simp
   unfold int64;rw[this];exact fZ.pure jU
  .cases e
 .cases e
theorem O6{x a:AV}{v:Value}(e:zi x=some a)(c:RV Z x v){o:Oper}{y:Operand}{ρ:Operand->Value}(d:ρ y=v)(f:o.op= .nilCheck y):
 ∃es,ak P (execOp ρ o) w (.value v) w es∧RV Z a v∧es=[]:=by
 unfold zi at e;unfold execOp;simp only[f,d];split at e
 .cases e
  obtain⟨p,hp,rfl⟩:=jF c;exact⟨[],ak.pure _,xO hp,rfl⟩
 .cases e
  have b:=c;obtain⟨as,bs,rfl,_⟩:=yP c;exact⟨[],ak.pure _,b,rfl⟩
 .cases e
  have b:=c;obtain⟨g,rfl,_⟩:=zu c;exact⟨[],ak.pure _,b,rfl⟩
 .cases e
  have b:=c;unfold RV at c;obtain⟨p,_,rfl⟩:=c;exact⟨[],ak.pure _,b,rfl⟩
 .cases e
theorem abu{lo hi:Nat}{x:AV}{k:Nat}{v:Value}{c:BoundsCode}(e:oC lo hi x=some k)(d:RV Z x v):ak P (Instr.sliceBound v hi c) w k w []∧k<=hi∧lo<=k:=by
 unfold oC at e;split at e
 .rename_i f i
  obtain⟨b,rfl⟩:=fJ e;have b:=dN b;obtain rfl:=iK d;refine⟨?_,by omega,by omega⟩;unfold Instr.sliceBound;refine ak.aG (a:=(f,i)) (ak.pure _) ?_;have g:0<=i∧i<=(hi:Int):=by omega
  simp only[aC g];exact ak.pure _
 .cases e
def X7(Z:Nm):Option AV->Option Value->Prop
 |none,v=>v=none
 |some a,v=>∃u,v=some u∧RV Z a u
theorem wL{y:Nat}{k:Nat}{v:Value}{c:BoundsCode}(j:hi<=y)(e:oC lo hi x=some k)(d:RV Z x v):ak P (Instr.sliceBound v y c) w k w []∧k<=hi:=by
 unfold oC at e;split at e
 .rename_i f i
  obtain⟨b,rfl⟩:=fJ e;have b:=dN b;obtain rfl:=iK d;refine⟨?_,by omega⟩;unfold Instr.sliceBound;refine ak.aG (a:=(f,i)) (ak.pure _) ?_;have g:0<=i∧i<=(y:Int):=by omega
  simp only[aC g];exact ak.pure _
 .cases e
theorem af4{lo:Option AV}{a:Option Value}{h l:Nat}{c:BoundsCode}(e:AU lo h 0=some l)(b:X7 Z lo a):
 ak P (match a with |some v=>Instr.sliceBound v h c|none=>pure 0) w l w []∧l<=h:=by
 cases lo with
 |none=>obtain rfl:a=none:=b;cases e;exact⟨ak.pure _,bK _⟩
 |some x=>
  obtain⟨u,rfl,d⟩:=b;obtain⟨h1,f,_⟩:=abu (P:=P) (w:=w) (c:=c) e d;exact⟨h1,f⟩
def Yx(cap m:Nat)(mx:Option AV):Prop:=match mx with |some x=>∃M,oC 0 M x=some m∧M<=cap|none=>m=cap
theorem DJ{isS:Bool}{len cap:Nat}{lo hi mx:Option AV}{d e f:Option Value}{m h l H:Nat}(o:X7 Z lo d)(g:X7 Z hi e)(i:X7 Z mx f)
 (q:Yx cap m mx)(b:Zi hi H len mx.isSome=some h)(n:H<=m)(A:AU lo h 0=some l):
 ak P (Instr.sliceBounds isS len cap d e f) w (l,h,m) w []∧l<=h∧(h<=H∨h=len):=by
 have j:=λc=>af4 (P:=P) (w:=w) (c:=c) A o;have p:h<=H∨h=len:=by
  cases hi with
  |none=>simp only[Zi]at b;obtain⟨_,b⟩:=dO b;cases b;exact .inr rfl
  |some x=>
   unfold Zi oC at b;simp only at b;split at b
   .obtain⟨r,rfl⟩:=fJ b
    have r:=dN r;exact .inl (by omega)
   .cases b
 refine⟨?_,(j .sliceB).2,p⟩;have a:∀c,ak P (match d with |some v=>Instr.sliceBound v h c|none=>pure 0) w l w []:=λc=>(j c).1;cases mx with
 |none=>
  obtain rfl:f=none:=i;obtain rfl:m=cap:=q;cases hi with
  |none=>
   obtain rfl:e=none:=g;cases b;cases d with
   |none=>exact ak.aG (ak.pure _) (ak.aG (ak.pure _) (ak.aG (a .sliceB) (ak.pure _)))
   |some z=>exact ak.aG (ak.pure _) (ak.aG (ak.pure _) (ak.aG (a .sliceB) (ak.pure _)))
  |some x=>
   obtain⟨u,rfl,k⟩:=g;cases d with
   |none=>exact ak.aG (ak.pure _) (ak.aG (wL n b k).1 (ak.aG (a .sliceB) (ak.pure _)))
   |some z=>exact ak.aG (ak.pure _) (ak.aG (wL n b k).1 (ak.aG (a .sliceB) (ak.pure _)))
 |some y=>
  obtain⟨B,rfl,s⟩:=i;obtain⟨M,h1,t⟩:=q;cases hi with
  |none=>cases b
  |some x=>
   obtain⟨u,rfl,k⟩:=g;cases d with
   |none=>exact ak.aG (wL t h1 s).1 (ak.aG (wL n b k).1 (ak.aG (a .slice3C) (ak.pure _)))
   |some z=>exact ak.aG (wL t h1 s).1 (ak.aG (wL n b k).1 (ak.aG (a .slice3C) (ak.pure _)))
theorem extract_mk(s:List UInt8)(l h:Nat):(⟨s.toArray⟩:ByteArray).extract l h=⟨((s.take h).drop l).toArray⟩:=by
 apply ByteArray.ext;simp[List.extract_eq_take_drop,List.drop_take]
theorem QS{l m:Nat}:(if m=l then(⟨p.1,off,none⟩:Addr)else(⟨p.1,off,none⟩:Addr).add (l*size))=⟨p.1,cond (Nat.beq m l) off (off+l*size),none⟩:=by
 by_cases h:m=l
 .subst h;simp
 .have:Nat.beq m l=false:=by cases a:Nat.beq m l with |false=>rfl|true=>exact aX (au a) h
  rw[ah h,this,oM];rfl
theorem GZ{id off size len cap m:Nat}{lo hi mx:Option AV}{c d f:Option Value}{a:AV}{p:Nat×Nat}(hp:Z id=some p){isS:Bool}
 (e:rX id off size len m lo hi mx.isSome=some a)(t:Yx cap m mx)(i:len<=m∨mx.isSome=true)(j:X7 Z lo c)(n:X7 Z hi d)(o:X7 Z mx f):
 ∃l h,ak P (Instr.sliceBounds isS len cap c d f) w (l,h,m) w []∧RV Z a (.slice (some (if m=l then(⟨p.1,off,none⟩:Addr)else(⟨p.1,off,none⟩:Addr).add (l*size))) (h - l) (m - l)):=by
 unfold rX at e;split at e
 .cases e
 .rename_i h b
  split at e
  .cases e
  .rename_i l u
   cases e;obtain⟨h1,v,g⟩:=DJ (P:=P) (w:=w) (isS:=isS) (cap:=cap) j n o t b (aj _) u;refine⟨l,h,h1,?_⟩;rw[QS];unfold RV;refine⟨p,hp,m - l,rfl,?_,λk q=>(aN q),λq=>(by cases q)⟩;have:h<=m:=by
    rcases g with g|g
    .exact g
    .rcases i with r|r
     .omega
     .cases hi with
      |none=>rw[r]at b;cases b
      |some x=>
       unfold Zi oC at b;simp only at b;split at b
       .obtain⟨s,rfl⟩:=fJ b
        have s:=dN s;omega
       .cases b
   omega
theorem Yi(F:Fits P E){lo hi:Option AV}{v:Value}(e:gQ E t x lo hi mx=some a)(A:RV Z x v)
 (i:X7 Z lo vlo)(j:X7 Z hi vhi)(o:X7 Z mx vmx):fZ P K Z w (Instr.sliceAt t v vlo vhi vmx) a:=by
 unfold gQ at e;unfold Instr.sliceAt;have B:mx.isSome=false->mx=none∧vmx=none:=by
  intro h;cases mx with
  |none=>exact⟨rfl,o⟩
  |some _=>cases h
 split at e
 .
  rename_i s d;obtain rfl:=nG A;obtain⟨b,e⟩:=dO e;obtain⟨rfl,rfl⟩:=B b;unfold QU at e;split at e
  .cases e
  .rename_i h g
   split at e
   .cases e
   .rename_i l C
    cases e;refine fZ.aG (ak.underlying (qg F d)) ?_;simp only;unfold Instr.slice;refine fZ.aG (ak.underlying (qg F d)) ?_;simp only[Option.isSome_none,gJ,if_false];rw[size_mk];refine fZ.aG (DJ (isS:=false) (len:=s.length) (cap:=s.length) (m:=s.length) (h:=h) (l:=l) (H:=s.length) i j (show X7 Z none none from rfl) rfl g (aj _) C).1 ?_;simp only[extract_mk];exact fZ.pure LU
 .
  rename_i el d;unfold RV at A;subst A;split at e
  .rename_i r m h l G b g C
   cases e;have h0:h=0:=by
    cases hi with
    |none=>simp only[Zi]at g;obtain⟨_,g⟩:=dO g;cases g;rfl
    |some x=>
     unfold Zi oC at g;simp only at g;split at g
     .obtain⟨q,rfl⟩:=fJ g
      have q:=dN q;omega
     .cases g
   subst h0;have m0:m=0:=by
    cases mx with
    |none=>cases b;rfl
    |some x=>
     unfold AU oC at b;simp only at b;split at b
     .obtain⟨q,rfl⟩:=fJ b
      have q:=dN q;omega
     .cases b
   subst m0;have f:Yx 0 0 mx:=by
    cases mx with
    |none=>rfl
    |some x=>exact⟨0,b,aj _⟩
   obtain⟨h1,y,_⟩:=DJ (P:=P) (w:=w) (isS:=true) (len:=0) (cap:=0) (m:=0) (h:=0) (l:=l) (H:=0) i j o f g (aj _) C;obtain rfl:l=0:=by omega
   refine fZ.aG (ak.underlying (eu F d)) ?_;simp only;unfold Instr.slice;refine fZ.aG (ak.underlying (eu F d)) ?_;refine fZ.aG h1 ?_;refine fZ.aG (dW (lI F G)) ?_;exact fZ.pure (by unfold RV;rfl)
  .cases e
 .
  rename_i n el id off d;obtain⟨p,hp,rfl⟩:=jF A;split at e
  .rename_i r m z b
   refine fZ.aG (ak.underlying (xB F d)) ?_;refine fZ.aG (x:=(⟨p.1,off,none⟩:Addr)) (ak.pure _) ?_;have f:Yx n m mx:=by
    cases mx with
    |none=>cases b;rfl
    |some x=>exact⟨n,b,aj _⟩
   obtain⟨l,h,h1,y⟩:=GZ (P:=P) (w:=w) (isS:=false) hp e f (by cases mx with |none=>cases b;exact .inl (aj _)|some _=>exact .inr rfl) i j o;refine fZ.aG h1 ?_;refine fZ.aG (dW (lI F z)) ?_;exact fZ.pure y
  .cases e
 .
  rename_i el id off len c d;obtain⟨p,hp,cap,rfl,u,L,_⟩:=kE A;obtain rfl:=L c rfl;split at e
  .rename_i r m z b
   refine fZ.aG (ak.underlying (eu F d)) ?_;simp only;unfold Instr.slice;refine fZ.aG (ak.underlying (eu F d)) ?_;have f:Yx cap m mx:=by
    cases mx with
    |none=>cases b;rfl
    |some x=>exact⟨cap,b,aj _⟩
   obtain⟨l,h,h1,y⟩:=GZ (P:=P) (w:=w) (isS:=true) hp e f (by cases mx with |none=>cases b;exact .inl u|some _=>exact .inr rfl) i j o;refine fZ.aG h1 ?_;refine fZ.aG (dW (lI F z)) ?_;have:(if m=l then some (⟨p.1,off,none⟩:Addr)else(some (⟨p.1,off,none⟩:Addr)).map (·.add (l*r.size)))=some (if m=l then(⟨p.1,off,none⟩:Addr)else(⟨p.1,off,none⟩:Addr).add (l*r.size)):=by
    split<;>rfl
   simp only[this];exact fZ.pure y
  .cases e
 .
  rename_i el id off len d;obtain⟨p,hp,cap,rfl,u,_,J⟩:=kE A;split at e
  .rename_i r z
   unfold zU at e;split at e
   .cases e
   .rename_i h g
    split at e
    .cases e
    .rename_i l C
     obtain rfl:vmx=none:=o;obtain⟨h1,y,O⟩:=DJ (P:=P) (w:=w) (isS:=true) (len:=len) (cap:=cap) (m:=cap) (mx:=none) i j (show X7 Z none none from rfl) rfl g u C;have Q:h<=len:=by omega
     refine fZ.aG (ak.underlying (eu F d)) ?_;simp only;unfold Instr.slice;refine fZ.aG (ak.underlying (eu F d)) ?_;refine fZ.aG h1 ?_;refine fZ.aG (dW (lI F z)) ?_;cases q:Nat.beq l 0 with
     |true=>
      rw[q,bG]at e;cases e;obtain rfl:=au q;have:(if cap=0 then some (⟨p.1,off,none⟩:Addr)else(some (⟨p.1,off,none⟩:Addr)).map (·.add (0*r.size)))=some ⟨p.1,off,none⟩:=by
       split
       .rfl
       .simp[oM]
      simp only[this];refine fZ.pure ?_;unfold RV;exact⟨p,hp,cap,rfl,by omega,λk D=>(by cases D),J⟩
     |false=>
      rw[q,bH]at e;have M:l≠0:=λh=>by rw[h]at q;cases q
      cases hb2:Nat.blt l len with
      |true=>
       rw[hb2,bG]at e;cases e;rw[dB]at hb2;have I:¬cap=l:=by omega
       simp only[ah I,kD,oM];refine fZ.pure ?_;unfold RV;exact⟨p,hp,cap - l,rfl,by omega,λk D=>(by cases D),λD h0=>by have:=J D (by omega);omega⟩
      |false=>
       rw[hb2,bH]at e;cases e;have hb3:¬l<len:=λh=>by rw[← dB]at h;rw[h]at hb2;cases hb2
       refine fZ.pure ?_;unfold RV;have N:h - l=0:=by omega
       rw[N];exact⟨_,cap - l,rfl⟩
  .rename_i r x z
   split at e
   .rename_i m b
    have f:Yx cap m (some x):=⟨len,b,u⟩;refine fZ.aG (ak.underlying (eu F d)) ?_;simp only;unfold Instr.slice;refine fZ.aG (ak.underlying (eu F d)) ?_;obtain⟨l,h,h1,y⟩:=GZ (P:=P) (w:=w) (isS:=true) (mx:=some x) hp e f (.inr rfl) i j o;refine fZ.aG h1 ?_;refine fZ.aG (dW (lI F z)) ?_;have:(if m=l then some (⟨p.1,off,none⟩:Addr)else(some (⟨p.1,off,none⟩:Addr)).map (·.add (l*r.size)))=some (if m=l then(⟨p.1,off,none⟩:Addr)else(⟨p.1,off,none⟩:Addr).add (l*r.size)):=by
     split<;>rfl
    simp only[this];exact fZ.pure y
   .cases e
  .cases e
 .cases e
end
end
section
variable{α:Type}{a x:AV}{size:Nat}{u:Value}
section
variable{P:Program}{K:Ctx}{ι:Nm}{h:AH}{w:World}{E:Env}
theorem Ol{α a:Type}{f:α->Sem a}{g:α->a}:∀{l:List α},(∀x∈l,ak P (f x) w (g x) w [])->ak P (l.mapM f) w (l.map g) w []
 |[],_=>by rw[List.mapM_nil];exact ak.pure _
 |x::l,h=>by
  rw[List.mapM_cons];exact ak.aG (h x (by simp)) (ak.aG (Ol λy b=>h y (by simp[b])) (ak.pure _))
theorem VZ{a:Type}{f:α->Sem a}{g:α->a}{l:Array α}(h:∀x∈l,ak P (f x) w (g x) w []):ak P (l.mapM f) w (l.map g) w []:=by
 rw[Array.mapM_eq_mapM_toList,← bind_pure_comp];have:=Ol (P:=P) (w:=w) (f:=f) (g:=g) (l:=l.toList) λx c=>h x (by simpa using c);have b:=ak.aG this (ak.pure (P:=P) (w:=w) ((l.toList.map g).toArray)) (f:=λx=>Pure.pure x.toArray);have e:(l.toList.map g).toArray=l.map g:=by apply Array.ext';simp
 rw[e]at b;exact b
theorem foldl_set{ι:Nm}:∀{as:List AV} {vs:List Value} {l:List AV} {cells:Array Value} (off k:Nat),dS ι as vs->dS ι l cells.toList->
 dS ι (setAt l (off+k) as) ((vs.zipIdx k).foldl (λcs p=>cs.setIfInBounds (off+p.2) p.1) cells).toList
 |[],vs,l,cells,off,k,h1,b=>by rw[bU h1];simpa[setAt]using b
 |a::as,_,l,cells,off,k,h1,b=>by
  obtain⟨v,r,rfl,c,d⟩:=bf h1;simp only[List.zipIdx_cons,kY,setAt];have:=foldl_set (l:=l.set (off+k) a) (cells:=cells.setIfInBounds (off+k) v) off (k+1) d (by rw[Array.toList_setIfInBounds];exact b.set _ c);rw[show off+(k+1)=off+k+1 by omega]at this;exact this
theorem EW:∀(as l:List AV) (off:Nat),(setAt l off as).length=l.length
 |[],_,_=>rfl
 |a::as,l,off=>by rw[setAt,EW as];simp
def RVp(ι:Nm):List (Nat×AV)->List (Nat×Value)->Prop
 |[],vs=>vs=[]
 |a::l,vs=>∃v r,vs=(a.1,v)::r∧RV ι a.2 v∧RVp ι l r
theorem Lh{v:Value}(c:RV ι a v)(h1:a.isAny=false)(d:Nat.beq a.cells.length size=true):
 dS ι a.cells v.cells.toList∧v.cells.size=size:=by
 have e:=au d;have b:dS ι a.cells v.cells.toList:=c.cells (.inl h1);refine⟨b,?_⟩;rw[← e,b.length];simp
theorem FV{Yb place:Nat->Option (Nat×Nat)}(hp:∀i q,Yb i=some q->place i=some q):∀{ps:List (Nat×AV)} {vs:List (Nat×Value)} {l r:List AV} {cells:Array Value},
 BJ Yb l ps=some r->RVp ι ps vs->dS ι l cells.toList->∃c,Instr.fill place cells vs=some c∧dS ι r c.toList
 |[],vs,l,r,cells,e,h1,d=>by
  have g:vs=[]:=h1;subst g;simp only[BJ,dh]at e;subst e;exact⟨cells,by unfold Instr.fill;rfl,d⟩
 |p::ps,vs,l,r,cells,e,h1,d=>by
  obtain⟨v,a,rfl,k,m⟩:=h1;simp only[BJ]at e;split at e
  .cases e
  .rename_i q n
   obtain⟨e1,e⟩:=dO e;obtain⟨e2,e⟩:=jf e;rw[aF]at e2;obtain⟨o,f⟩:=Lh k e1 e2.1;have s:=aJ e2.2;have b:l.length=cells.size:=by rw[d.length];simp
   obtain⟨c,t,hr⟩:=FV hp (vs:=a) (cells:=v.cells.zipIdx.foldl (λcs (c,j)=>cs.setIfInBounds (q.1+j) c) cells) e m (by
    have:=foldl_set (cells:=cells) q.1 0 o d;rw[Nat.add_zero]at this;have u:v.cells.zipIdx.foldl (λcs (x:Value×Nat)=>cs.setIfInBounds (q.1+x.2) x.1) cells=(v.cells.toList.zipIdx 0).foldl (λcs p=>cs.setIfInBounds (q.1+p.2) p.1) cells:=by
     rw[← oK];simp
    exact u▸this)
   refine⟨c,?_,hr⟩;rw[Instr.fill,hp _ _ n];have:(v.cells.size≠q.2||q.1+v.cells.size>cells.size)=false:=by
    simp only[Bool.or_eq_false_iff,rQ];exact⟨by simp[f],by rw[f,← b];omega⟩
   obtain⟨y,z⟩:=q;simp only at this ⊢;rw[this];exact t
theorem nT(F:Fits P E){t:TypeId}{ti:TI}(a:E.tt.get t=some ti):∃z,ak P (zeroValue t) w z w []∧RV ι ti.zeroV z∧dS ι ti.zero z.cells.toList∧z.cells.size=ti.size∧ti.zero.length=ti.size:=by
 obtain⟨i,z,hi,_,_,b,h1,c,d,e⟩:=(lI F a).info;exact⟨z,ak.zeroValue hi b,h1 ι,c ι,d,e⟩
theorem Y2(F:Fits P E){t:TypeId}{ps:List (Nat×AV)}{vs:Array (Nat×Value)}{a:AV}(e:Ls E t ps=some a)(B:RVp ι ps vs.toList):fZ P K ι w (Instr.build t vs) a:=by
 unfold Ls at e;cases p:E.tt.get t with
 |none=>rw[p]at e;cases e
 |some ti=>
  simp only[p]at e;obtain⟨z,I,_,m,_,_⟩:=nT (w:=w) (ι:=ι) F p;have o:E.d t=some ti.d:=by unfold Env.d;rw[p];rfl
  unfold Instr.build;refine fZ.aG I ?_;split at e
  .rename_i C j
   rw[j]at o;cases b:BJ (λi=>(C[i]?).map λx=>(x.1,x.2.1)) ti.zero ps with
   |none=>rw[b]at e;cases e
   |some r=>
    rw[b]at e;simp at e;subst e;obtain⟨s,D,J⟩:=BQ F o;refine fZ.aG (ak.underlying D) ?_;have L:ak P (s.mapM λf=>(do Pure.pure (f.offset,← sizeOf f.type):Sem (Nat×Nat))) w (s.map λf=>(f.offset,P.cellsOf f.type)) w []:=by
     refine VZ λf b=>?_;obtain⟨k,M,rfl⟩:=Array.mem_iff_getElem.1 b;obtain⟨H,G⟩:=Jg F o D k M;refine ak.aG (ak.sizeOf G) ?_;have:P.cellsOf s[k].type=H.size:=by unfold Program.cellsOf;rw[G];rfl
     rw[this];exact ak.pure _
    refine fZ.aG L ?_;obtain⟨c,v,hr⟩:=FV (place:=λi=>(s.map λf=>(f.offset,P.cellsOf f.type))[i]?) (λi q l=>by
     cases y:C[i]? with
     |none=>rw[y]at l;cases l
     |some x=>
      rw[y]at l;cases l;obtain⟨g,A,h1,_,N,O,Q⟩:=J i x y;have:P.cellsOf g.type=N.size:=by unfold Program.cellsOf;rw[O];rfl
      simp[A,this,h1,Q]) b B m
    simp only[v];exact fZ.pure (Qj hr)
  .rename_i n el j
   rw[j]at o;split at e
   .rename_i u R
    cases b:BJ (λi=>some (i*u.size,u.size)) ti.zero ps with
    |none=>rw[b]at e;cases e
    |some r=>
     rw[b]at e;simp at e;subst e;refine fZ.aG (ak.underlying (xB F o)) ?_;refine fZ.aG (dW (lI F R)) ?_;obtain⟨c,v,hr⟩:=FV (place:=λi=>some (i*u.size,u.size)) (λi q l=>l) b B m;simp only[v];exact fZ.pure (Qj hr)
   .cases e
  .cases e
theorem YO{y:AV}{v:Value}{r:Bool}(e:UQ x y=some r)(c:RV ι x v)(d:RV ι y u):
 (∃a b,x= .bool a∧v= .bool a∧u= .bool b∧r=(a==b))∨(∃k a b,x= .int k a∧v= .int k a∧u= .int k b∧r=(a==b))∨(∃a b,x= .str a∧v= .string ⟨a.toArray⟩∧u= .string ⟨b.toArray⟩∧r=(a==b)):=by
 unfold UQ at e;split at e
 .rename_i a b;cases e;obtain rfl:=qQ c;obtain rfl:=qQ d;exact .inl ⟨a,b,rfl,rfl,rfl,rfl⟩
 .rename_i k a k' b
  obtain⟨f,rfl⟩:=fJ e;obtain rfl:=nJ f;obtain rfl:=iK c;obtain rfl:=iK d;exact .inr (.inl ⟨k,a,b,rfl,rfl,rfl,rfl⟩)
 .rename_i a b;cases e;obtain rfl:=nG c;obtain rfl:=nG d;exact .inr (.inr ⟨a,b,rfl,rfl,rfl,rfl⟩)
 .cases e
theorem bytes_beq(a b:List UInt8):((⟨a.toArray⟩:ByteArray)==⟨b.toArray⟩)=(a==b):=by
 show(a.toArray==b.toArray)=(a==b);simp
theorem KQ{f:TypeDesc}{k:AV}{v:Value}(A:RV ι k v)
 (g:(f= .bool∧∃b,k= .bool b)∨((∃j,f= .int j)∧∃j n,k= .int j n)∨(f= .string∧∃s,k= .str s)):
 ∀{es:List AE} {vs:List MapEntry} {i:Nat} {r:Option (Nat×AV)},AL k es i=some r->yG ι es vs->
  ∃u,Instr.findNow f v vs i=some u∧(match r,u with |none,none=>True|some p,some q=>p.1=q.1∧RV ι p.2 q.2|_,_=>False)
 |[],vs,i,r,e,h=>by
  have D:vs=[]:=h;subst D;cases e;exact⟨none,by unfold Instr.findNow;rfl,trivial⟩
 |a::es,vs,i,r,e,h=>by
  obtain⟨B,C,rfl,h1,F,J,G⟩:=h;simp only[AL]at e;have key:∀b,eqK k a.key=some b->Instr.sameNow f v B.key=some b:=by
   intro b l;have z:UQ k a.key=some b:=by
    rcases g with⟨_,c,rfl⟩|⟨_,j,n,rfl⟩|⟨_,s,rfl⟩<;>exact l
   rcases YO z A h1 with⟨x,y,e1,e2,m,o⟩|⟨j,x,y,e1,e2,m,o⟩|⟨x,y,e1,e2,m,o⟩
   .rcases g with⟨t,_⟩|⟨_,_,_,d⟩|⟨_,_,d⟩
    .subst t;rw[e2,m,o];rfl
    .rw[e1]at d;cases d
    .rw[e1]at d;cases d
   .rcases g with⟨_,_,d⟩|⟨⟨_,t⟩,_⟩|⟨_,_,d⟩
    .rw[e1]at d;cases d
    .subst t;rw[e2,m,o];simp[Instr.sameNow]
    .rw[e1]at d;cases d
   .rcases g with⟨_,_,d⟩|⟨_,_,_,d⟩|⟨t,_⟩
    .rw[e1]at d;cases d
    .rw[e1]at d;cases d
    .subst t;rw[e2,m,o]
     show some _=_;rw[bytes_beq]
  split at e
  .cases e
  .rename_i l
   cases e;refine⟨some (i,B.val),?_,rfl,F⟩;rw[Instr.findNow,key _ l]
  .rename_i l
   obtain⟨u,H,I⟩:=KQ A g e G;refine⟨u,?_,I⟩;rw[Instr.findNow,key _ l];exact H
def V5(ι:Nm)(r:Option (Nat×AV))(a:Option (Nat×Value)):Prop:=match r,a with |none,none=>True|some p,some q=>p.1=q.1∧RV ι p.2 q.2|_,_=>False
theorem yQ{g:TypeId}{l:List AV}{x:Array Value}(d:∀(y:Array Value) (m:List AV) (r:Bool),dS ι m y.toList->D6 l m=some r->ak P (Op.equal g (.agg x) (.agg y)) w r w []):
 ∀{es:List AE} {vs:List MapEntry} {i:Nat} {r:Option (Nat×AV)},AL (.agg l) es i=some r->yG ι es vs->
  ∃f,ak P (Instr.findAsking g (.agg x) vs i) w f w []∧V5 ι r f
 |[],vs,i,r,e,h=>by
  have o:vs=[]:=h;subst o;cases e;exact⟨none,by unfold Instr.findAsking;exact ak.pure _,trivial⟩
 |a::es,vs,i,r,e,h=>by
  obtain⟨j,k,rfl,h1,p,z,q⟩:=h;simp only[AL]at e;have key:∀b,eqK (.agg l) a.key=some b->ak P (Op.equal g (.agg x) j.key) w b w []:=by
   intro b c;cases n:a.key with
   |agg m=>
    rw[n]at c h1;obtain⟨cs,s,t⟩:=sO h1;rw[s];exact d cs m b t c
   |_=>rw[n]at c;cases c
  split at e
  .cases e
  .rename_i c
   cases e;refine⟨some (i,j.val),?_,rfl,p⟩;rw[Instr.findAsking];exact ak.aG (key _ c) (ak.pure _)
  .rename_i c
   obtain⟨f,u,v⟩:=yQ d e q;refine⟨f,?_,v⟩;rw[Instr.findAsking];exact ak.aG (key _ c) u
theorem sK(F:Fits P E){i:TypeId}{k:AV}{z:Value}(c:KL E i k=true)(D:RV ι k z){es:List AE}{vs:List MapEntry}{r:Option (Nat×AV)}(e:AL k es 0=some r)(hr:yG ι es vs):
 (∀b,ak P (Instr.checkKey b 10000 i z) w () w [])∧∃f,ak P (Instr.findKey i z vs) w f w []∧V5 ι r f:=by
 unfold KL at c;have g:∀A,P.underlying i=some A->((A= .bool∧∃b,k= .bool b)∨((∃j,A= .int j)∧∃j n,k= .int j n)∨(A= .string∧∃s,k= .str s))->
  (∀b,ak P (Instr.checkKey b 10000 i z) w () w [])∧∃f,ak P (Instr.findKey i z vs) w f w []∧V5 ι r f:=by
  intro A o O;obtain⟨f,h1,B⟩:=KQ D O e hr;refine⟨λb=>?_,f,?_,B⟩
  .unfold Instr.checkKey
   refine ak.aG (ak.underlying o) ?_;rcases O with⟨rfl,_⟩|⟨⟨j,rfl⟩,_⟩|⟨rfl,_⟩<;>exact ak.pure _
  .unfold Instr.findKey
   refine ak.aG (ak.underlying o) ?_;rw[h1];exact ak.pure _
 split at c
 .rename_i p
  split at c
  .exact g _ (NT F p) (.inl ⟨rfl,_,rfl⟩)
  .cases c
 .rename_i j p
  split at c
  .exact g _ (BR F p) (.inr (.inl ⟨⟨j,rfl⟩,_,_,rfl⟩))
  .cases c
 .rename_i p
  split at c
  .exact g _ (qg F p) (.inr (.inr ⟨rfl,_,rfl⟩))
  .cases c
 .rename_i Q p
  split at c
  .rename_i l
   obtain⟨x,rfl,G⟩:=sO D;obtain⟨t,o,H⟩:=F.wZ c;obtain⟨h1,B⟩:=H x ι w G;refine⟨h1,?_⟩;have u:∀(y:Array Value) (m:List AV) (r:Bool),dS ι m y.toList->D6 l m=some r->ak P (Op.equal i (.agg x) (.agg y)) w r w []:=λy m r I J=>(B y m r I J (.const (.bool true)) (.const (.bool true)) .eql (.inl rfl)).2;unfold Instr.findKey;cases d:Instr.findNow t (.agg x) vs 0 with
   |none=>
    obtain⟨f,L,M⟩:=yQ u e hr;refine⟨f,ak.aG (ak.underlying o) ?_,M⟩;rw[d];exact L
   |some q=>
    refine⟨q,ak.aG (ak.underlying o) (by rw[d];exact ak.pure _),?_⟩;cases C:vs with
    |nil=>
     subst C;have v:es=[]:=by cases es with |nil=>rfl|cons a es=>obtain⟨_,_,N,_⟩:=hr;cases N
     subst v;cases e;unfold Instr.findNow at d;cases d;trivial
    |cons e1 r1=>
     subst C;rw[Instr.findNow]at d;have:Instr.sameNow t (.agg x) e1.key=none:=by cases t<;>rfl
     rw[this]at d;cases d
  .cases c
 .rename_i n el p
  split at c
  .rename_i l
   obtain⟨x,rfl,G⟩:=sO D;obtain⟨t,o,H⟩:=F.wZ c;obtain⟨h1,B⟩:=H x ι w G;refine⟨h1,?_⟩;have u:∀(y:Array Value) (m:List AV) (r:Bool),dS ι m y.toList->D6 l m=some r->ak P (Op.equal i (.agg x) (.agg y)) w r w []:=λy m r I J=>(B y m r I J (.const (.bool true)) (.const (.bool true)) .eql (.inl rfl)).2;unfold Instr.findKey;cases d:Instr.findNow t (.agg x) vs 0 with
   |none=>
    obtain⟨f,L,M⟩:=yQ u e hr;refine⟨f,ak.aG (ak.underlying o) ?_,M⟩;rw[d];exact L
   |some q=>
    refine⟨q,ak.aG (ak.underlying o) (by rw[d];exact ak.pure _),?_⟩;cases C:vs with
    |nil=>
     subst C;have v:es=[]:=by cases es with |nil=>rfl|cons a es=>obtain⟨_,_,N,_⟩:=hr;cases N
     subst v;cases e;unfold Instr.findNow at d;cases d;trivial
    |cons e1 r1=>
     subst C;rw[Instr.findNow]at d;have:Instr.sameNow t (.agg x) e1.key=none:=by cases t<;>rfl
     rw[this]at d;cases d
  .cases c
 .cases c
end
end
section
variable{a x:AV}{t:TypeId}{u:Value}
section
variable{P:Program}{K:Ctx}{Z:Nm}{h:AH}{w:World}{E:Env}
theorem Fj(a b:Nat):Nat.beq a b=(a==b):=by
 rw[qY];simp
def SE(a el:TypeId)(u:Value)(ok:Bool)(es:Array MapEntry):Sem Value:=do
 Instr.checkKey es.isEmpty 10000 a u
 match ← Instr.findKey a u es.toList with
 |some (_,v)=>Pure.pure (if ok then .tuple #[v,.bool true]else v)
 |none=>do
  let v ← zeroValue el
  Pure.pure (if ok then .tuple #[v,.bool false]else v)
theorem Vr(F:Fits P E)(Q:K.P=P)(S:Sat K Z h w){i:AV}{ok:Bool}{v:Value}(e:yx E h t x i ok=some a)(n:RV Z x v)(s:RV Z i u):
 fZ P K Z w (Instr.lookup t v u ok) a:=by
 unfold yx at e;split at e
 .rename_i B el C
  have D:=(lW F C).1;split at e
  .rename_i R es G b
   obtain⟨l,b⟩:=jf b;obtain⟨z,H,m,_⟩:=nT (w:=w) (ι:=Z) F G;unfold Instr.lookup;refine fZ.aG (ak.underlying D) ?_;have f:∀c:Array MapEntry,yG Z es c.toList->fZ P K Z w (SE B el u ok c) a:=by
    intro c y;unfold SE;split at e
    .cases e
    .rename_i j val o
     obtain⟨g,r,k,d⟩:=sK (w:=w) F l s o y;cases e;cases r with
     |none=>exact d.elim
     |some q=>
      refine fZ.aG (g _) ?_;refine fZ.aG k ?_;cases ok with
      |true=>exact fZ.pure (vM (cO d.2 (cO nH dG)))
      |false=>exact fZ.pure d.2
    .rename_i o
     obtain⟨g,r,k,d⟩:=sK (w:=w) F l s o y;cases e;cases r with
     |some q=>exact d.elim
     |none=>
      refine fZ.aG (g _) ?_;refine fZ.aG k ?_;refine fZ.aG H ?_;cases ok with
      |true=>exact fZ.pure (vM (cO m (cO nH dG)))
      |false=>exact fZ.pure m
   unfold RY at b;split at b
   .cases b
    unfold RV at n;subst n;exact fZ.aG (ak.pure _) (f #[] rfl)
   .rename_i id
    split at b
    .rename_i I ck J
     cases b;obtain⟨p,hp,rfl⟩:=sH n;obtain⟨q,ob,A,L,M,T,N,c,rfl,hr⟩:=S.at J trivial;obtain rfl:p=q:=by rw[hp]at A;exact aN A
     obtain⟨O,g2⟩:=ak.oz (P:=P) (K:=K) N (by simp) rfl L M;exact fZ.lC O g2 (fZ.aG (ak.pure _) (f c hr))
    .cases b
   .cases b
  .cases e
 .cases e
theorem yG.find{q:AE->Bool}{q':MapEntry->Bool}(c:∀a e,e.born=a.born->q a=q' e):∀{es:List AE} {vs:List MapEntry},yG Z es vs->∀{a:AE},es.find? q=some a->∃e,vs.find? q'=some e∧RV Z a.key e.key∧RV Z a.val e.val
 |[],_,_,_,e=>by cases e
 |x::es,_,hr,a,e=>by
  obtain⟨y,r,rfl,h1,d,f,g⟩:=hr;rw[List.find?_cons]at e ⊢;rw[← c x y f];split at e
  .rename_i b;cases e;exact⟨y,by simp[b],h1,d⟩
  .rename_i b
   obtain⟨i,j,k⟩:=yG.find c g e;exact⟨i,by simp[b,j],k⟩
theorem YP(Q:K.P=P)(S:Sat K Z h w){v:Value}(e:BN h x=some a)(C:RV Z x v):fZ P K Z w (Instr.entry v) a:=by
 unfold BN at e;split at e
 .rename_i id
  obtain⟨p,hp,rfl⟩:=jF C;split at e
  .rename_i m s seen g D
   split at e
   .rename_i es ck st j k
    obtain⟨F,e2⟩:=jf e;obtain rfl:=au F;clear e;cases l:es.find? λe=>Nat.beq e.born st with
    |none=>rw[l]at e2;cases e2
    |some en=>
     rw[l]at e2;simp at e2;subst e2;obtain⟨q,ob,B,G,H,R,n,b,o,_,rfl⟩:=S.at D trivial;obtain rfl:p=q:=by rw[hp]at B;exact aN B
     obtain⟨I,r,t⟩:=o m rfl;subst t;obtain⟨q',J,i,c1,c2,T,u,y,rfl,hr⟩:=S.at j trivial;obtain rfl:I=q':=by rw[r]at i;exact aN i
     obtain⟨L,g2⟩:=ak.oz (P:=P) (K:=K) n (by simp) rfl G H;obtain⟨M,N⟩:=ak.oz (P:=P) (K:=K) u (by simp) rfl c1 c2;unfold Instr.entry;refine fZ.lC L g2 ?_;have c:seen.toArray.back? =some st:=by simpa[Array.back?_eq_getElem?,List.getLast?_eq_getElem?]using k
     simp only[c];refine fZ.lC M N ?_;have d:∃f,y.find? (λe=>e.born==st)=some f∧RV Z en.key f.key∧RV Z en.val f.val:=by
      obtain⟨f,z,A⟩:=yG.find (q:=λe=>Nat.beq e.born st) (q':=λe=>e.born==st) (λa e h=>by rw[h];exact Fj _ _) hr l;exact⟨f,by rw[← Array.find?_toList];exact z,A⟩
     obtain⟨f,z,A,O⟩:=d;simp only[bne_self_eq_false,gJ,if_false,z];exact fZ.pure (vM (cO A (cO O dG)))
   .cases e
  .cases e
 .cases e
end
end
section
variable{ty:TypeId}
section
variable{P:Program}{K:Ctx}{Y:Nm}{h:AH}{w:World}{E:Env}{X:Tr AV}{Z:Operand->Value}
def NOk(P:Program)(K:Ctx)(Y:Nm)(w:World)(s:Sem Next)(a:AV):Prop:=
 ∃v es,ak P s w (.value v) w es∧RV Y a v∧∀e∈es,zM K w.heap.size e
theorem fZ.next{s:Sem Value}{a:AV}(h:fZ P K Y w s a):NOk P K Y w (do Pure.pure (.value (← s))) a:=by
 obtain⟨v,es,h1,b,c⟩:=h;refine⟨v,es,?_,b,c⟩;have:=ak.bind h1 (ak.pure (P:=P) (w:=w) (Next.value v)) (f:=λv=>Pure.pure (Next.value v));simpa using this
theorem wC(a:∀x,RV Y (ev X x) (Z x)):∀l:List Operand,dS Y (evs X l) (l.map Z)
 |[]=>dG
 |x::l=>cO (a x) (wC a l)
theorem Qi(a:∀x,RV Y (ev X x) (Z x)):∀l:List (Nat×Operand),RVp Y (UO X l) (l.map λp=>(p.1,Z p.2))
 |[]=>rfl
 |x::l=>⟨Z x.2,_,rfl,a x.2,Qi a l⟩
theorem JM(a:∀x,RV Y (ev X x) (Z x))(o:Option Operand):X7 Y (PO X o) (o.map Z):=by
 cases o with
 |none=>rfl
 |some x=>exact⟨Z x,rfl,a x⟩
theorem aeG{k k':IntKind}{x y:Int}{ts:Array TypeId}:ak P (Builtin.max_ ts ty #[.int k x,.int k' y]) w (.int k (if y>x then y else x)) w []:=by
 unfold Builtin.max_;exact ak.aG (s:=Builtin.max2 (.int k x) (.int k' y)) (ak.pure _) (ak.pure _)
theorem aeF{k k':IntKind}{x y:Int}{ts:Array TypeId}:ak P (Builtin.min_ ts ty #[.int k x,.int k' y]) w (.int k (if y<x then y else x)) w []:=by
 unfold Builtin.min_;exact ak.aG (s:=Builtin.min2 (.int k x) (.int k' y)) (ak.pure _) (ak.pure _)
theorem Yp(q:Of K P E)(F:Fits P E)(S:Sat K Y h w){b:Builtin}{as:List AV}{ts:List TypeId}{a:AV}{args:Array Value}{tys:Array TypeId}{ty:TypeId}{cs:Array Bool}
 (e:wU E h b as ts=some a)(f:dS Y as args.toList)(o:tys.toList=ts):NOk P K Y w (builtin b tys ty cs args) a:=by
 obtain⟨tys⟩:=tys;obtain⟨args⟩:=args;simp only at f o;subst o;unfold wU at e;split at e
 .split at e
  .rename_i x t
   obtain⟨v,r,rfl,h1,d⟩:=bf f;obtain rfl:=bU d;exact(acJ q.P F S e h1).next
  .cases e
 .split at e
  .rename_i k x k' y
   obtain⟨v,r,rfl,h1,d⟩:=bf f;obtain⟨s,u,rfl,j,l⟩:=bf d;obtain rfl:=bU l;obtain rfl:=iK h1;obtain rfl:=iK j;obtain⟨z,rfl⟩:=fJ e;refine fZ.next ⟨_,[],aeG,?_,by simp⟩
   have:(if y>x then y else x)=cond (decide (y>x)) y x:=by by_cases g:y>x<;>simp[g]
   rw[this];exact jU
  .cases e
 .split at e
  .rename_i k x k' y
   obtain⟨v,r,rfl,h1,d⟩:=bf f;obtain⟨s,u,rfl,j,l⟩:=bf d;obtain rfl:=bU l;obtain rfl:=iK h1;obtain rfl:=iK j;obtain⟨z,rfl⟩:=fJ e;refine fZ.next ⟨_,[],aeF,?_,by simp⟩
   have:(if y<x then y else x)=cond (decide (y<x)) y x:=by by_cases g:y<x<;>simp[g]
   rw[this];exact jU
  .cases e
 .split at e
  .rename_i id off n c
   cases e;obtain⟨v,r,rfl,h1,d⟩:=bf f;obtain rfl:=bU d;obtain⟨p,hp,cap,rfl,m,_⟩:=kE h1;refine fZ.next ?_
   have g:cap≠0:=by omega
   have:Builtin.unsafeSliceData_ ⟨tys⟩ ty ⟨[Value.slice (some ⟨p.1,off,none⟩) (n+1) cap]⟩=Pure.pure (.pointer (some ⟨p.1,off,none⟩)):=by
    show(if cap≠0 then(Pure.pure (Value.pointer (some ⟨p.1,off,none⟩)):Sem Value)else _)=_;rw[aC g]
   rw[this];exact fZ.pure (xO hp)
  .cases e
   obtain⟨v,r,rfl,h1,d⟩:=bf f;obtain rfl:=bU d;unfold RV at h1;subst h1;exact fZ.next (fZ.pure (by unfold RV;rfl))
  .cases e
 .split at e
  .rename_i id off n k t
   split at e
   .rename_i el A
    cases e;obtain⟨v,r,rfl,h1,d⟩:=bf f;obtain rfl:=bU d;obtain⟨p,hp,cap,rfl,m,i,_⟩:=kE h1;obtain rfl:=i k rfl;refine fZ.next ?_
    show fZ P K Y w (Builtin.cap_ ⟨[t]⟩ ty ⟨[Value.slice (some ⟨p.1,off,none⟩) n cap]⟩) _;unfold Builtin.cap_;refine fZ.aG (ak.underlying (eu F A)) ?_;exact fZ.pure jU
   .cases e
  .cases e
 .cases e
theorem Q8(m:Of K P E)(F:Fits P E)(S:Sat K Y h w)(f:∀x,RV Y (ev X x) (Z x)){o:Oper}{a:AV}(e:fD o.op E X h=some a):NOk P K Y w (execOp Z o) a:=by
 unfold execOp;cases r:o.op<;>rw[r]at e<;>try (cases e;done)
 case move x=>cases e;exact⟨_,[],ak.pure _,f x,by simp⟩
 case assign x=>cases e;exact⟨_,[],ak.pure _,f x,by simp⟩
 case pick c x y=>
  have j:(match ev X c with | .bool t=>some (cond t (ev X x) (ev X y))|_=>none)=some a:=e;have n:=f c;cases z:ev X c<;>rw[z]at j n<;>try (cases j;done)
  rename_i t;have k:=qQ n;cases j;refine⟨if t=true then Z x else Z y,[],?_,?_,by simp⟩
  .show ak P (do Pure.pure (Next.value (if ← asBool (Z c)then Z x else Z y))) w _ w []
   rw[k];exact ak.aG (a:=t) (ak.pure _) (ak.pure _)
  .cases t with
   |true=>exact f x
   |false=>exact f y
 case build t ps=>
  refine(Y2 (vs:=ps.map λ(i,x)=>(i,Z x)) F e ?_).next
  have:=Qi f ps.toList;simpa using this
 case load t x=>
  have j:(match ev X x with | .ptr id off=>loadT E h t id off|_=>none)=some a:=e;have q:=f x;cases z:ev X x<;>rw[z]at j q<;>try (cases j;done)
  obtain⟨p,hp,q⟩:=jF q;obtain⟨v,es,h1,l,A⟩:=Gr (P:=P) S m F hp j;refine fZ.next ?_
  rw[q];exact⟨v,es,h1,l,A⟩
 case nilCheck x=>
  obtain⟨es,h1,l,rfl⟩:=O6 (P:=P) (w:=w) (o:=o) e (f x) rfl r;unfold execOp at h1;rw[r]at h1;exact⟨_,[],h1,l,by simp⟩
 case binOp op t x y u=>exact(ado F e (Zp (f x)) (Zp (f y))).next
 case unOp op t x=>exact(ad3 e (f x)).next
 case convert s d x=>exact(aa9 F e (f x)).next
 case makeInterface t x=>exact(MI F e (f x)).next
 case makeFunc g x y=>
  cases g with
  |func g=>
   cases e;refine fZ.next (fZ.pure ?_)
   have h1:=wC f x.toList;have l:=wC f y.toList;unfold RV;exact⟨x.map Z,y.map Z,rfl,by simpa using h1,by simpa using l⟩
  |_=>cases e
 case slice t x lo hi mx=>exact(Yi F e (Ee S m (f x)) (JM f lo) (JM f hi) (JM f mx)).next
 case fieldAddr s x i=>exact(MQ F e (f x)).next
 case field t x i=>exact(YM F e (f x)).next
 case indexAddr t x i=>exact(MK F e (Ee S m (f x)) (f i)).next
 case index t x i=>exact(YJ F e (f x) (f i)).next
 case lookup t x i ok=>exact(Vr F m.P S e (f x) (f i)).next
 case entry it=>exact(YP m.P S e (f it)).next
 case typeAssert x t u ok=>exact(VK F e (f x)).next
 case extract x i=>exact(TF e (f x)).next
 case call c=>
  have j:(match I4 c with |some b=>wU E h b (evs X c.args.toList) c.argTypes.toList|none=>none)=some a:=e;cases k:I4 c with
  |none=>rw[k]at j;cases j
  |some b=>
   rw[k]at j;have n:c.callee= .builtin b:=by
    unfold I4 at k;split at k
    .rename_i b' n;cases k;exact n
    .cases k
   have h1:=wC f c.args.toList;have:=Yp (ty:=o.type) (cs:=c.args.map λ| .const _=>true|_=>false) (args:=c.args.map Z) (tys:=c.argTypes) m F S j (by simpa using h1) rfl;obtain⟨v,es,l,A,B⟩:=this;refine⟨v,es,?_,A,B⟩;have hr:ak P (resolve Z c o.type) w { target:= .builtin b c.argTypes o.type (c.args.map λ| .const _=>true|_=>false),args:=c.args.map Z } w []:=by
    unfold resolve;rw[n];exact ak.pure _
   exact ak.aG hr l
end
end
section
variable{b i j n n':Nat}{o o0:AO}{ob:Obj}{p:Nat×Nat}
section
variable{P:Program}{K:Ctx}{Z:Nm}{h:AH}{w:World}{E:Env}
def upd(Z:Nm)(i:Nat)(p:Nat×Nat):Nm:=λj=>if j=i then some p else Z j
theorem pI(Z:Nm)(i:Nat)(p:Nat×Nat):upd Z i p i=some p:=by simp[upd]
theorem upd_ne{Z:Nm}(h:j≠i):upd Z i p j=Z j:=by simp[upd,h]
def Free(Z:Nm)(n m:Nat):Prop:=∀i,n<=i->i<m->Z i=none
theorem Free.sub{Z:Nm}{n m a b:Nat}(h:Free Z n m)(h1:n<=a)(c:b<=m):Free Z a b:=λi hi hj=>h i (by omega) (by omega)
structure Grow(Z ι':Nm)(n n':Nat):Prop where
 le:n<=n'
 same:∀i,i<n∨n'<=i->ι' i=Z i
theorem Grow.refl(Z:Nm)(n:Nat):Grow Z Z n n:=⟨aj _,λ_ _=>rfl⟩
theorem Grow.trans{Z ι' a:Nm}{n c b:Nat}(h:Grow Z ι' n c)(h':Grow ι' a c b):Grow Z a n b:=
 ⟨aS h.le h'.le,λi hi=>(h'.same i (by have:=h.le;have:=h'.le;omega)).trans (h.same i (by have:=h.le;have:=h'.le;omega))⟩
theorem Grow.ext{Z ι':Nm}(h:Grow Z ι' n n')(b:Free Z n n'):Ext Z ι':=λi p hi=>by
 by_cases a:i<n∨n'<=i
 .rw[h.same i a];exact hi
 .rw[b i (by omega) (by omega)]at hi;cases hi
theorem Grow.free{Z ι':Nm}{n a m:Nat}(h:Grow Z ι' n a)(b:Free Z n m):Free ι' a m:=λi h1 c=>by
 rw[h.same i (.inr h1)];exact b i (by have:=h.le;omega) c
theorem Grow.upd{Z:Nm}{n:Nat}{p:Nat×Nat}:Grow Z (Ev.upd Z n p) n (n+1):=⟨Nat.le_succ _,λi hi=>upd_ne (by omega)⟩
theorem Am{Z:Nm}{i:Nat}{p:Nat×Nat}(h:Z i=none):Ext Z (upd Z i p):=λj q hj=>by
 by_cases a:j=i
 .subst a;rw[h]at hj;cases hj
 .rw[upd_ne a];exact hj
theorem Ic{o:Obj}(a:b<w.heap.size):(w.heap.push o)[b]? =w.heap[b]? :=by
 rw[lG];split
 .omega
 .rfl
theorem lt_of_heap(h:w.heap[b]? =some ob):b<w.heap.size:=by
 rw[aV]at h;exact h.1
theorem AH.qW{x:AO}(e:(h.put j o).tr.get i=some x):(i=j∧x=o)∨(i≠j∧h.tr.get i=some x):=by
 obtain⟨tr,nx,df⟩:=h;have a:(tr.set j o).get i=some x:=e;exact Tr.uD a
theorem AH.Vm:(h.new o).tr=(h.put h.nx o).tr:=by obtain⟨tr,nx,df⟩:=h;rfl
theorem AH.mZ{o:AO}:(h.new o).nx=h.nx+1:=by obtain⟨tr,nx,df⟩:=h;rfl
theorem AH.sD:(h.put j o).nx=h.nx:=by obtain⟨tr,nx,df⟩:=h;rfl
theorem AH.yM:(h.new o).df=h.df:=by obtain⟨tr,nx,df⟩:=h;rfl
theorem AH.wV:(h.put j o).df=h.df:=by obtain⟨tr,nx,df⟩:=h;rfl
theorem Sat.afX(S:Sat K Z h w){h':AH}(e:h'.tr=h.tr):Sat K Z h' w:=
 ⟨λi o hi=>S.objs i o (by rw[← e];exact hi),λi j o a p q h1 b=>S.inj i j o a p q (by rw[← e];exact h1) (by rw[← e];exact b),S.lo,S.bs,S.old,S.os,S.tape,S.output,S.kV⟩
theorem Sat.mono(S:Sat K Z h w){ι':Nm}(a:Ext Z ι'):Sat K ι' h w:=by
 refine⟨λi o hi f=>?_,λi j o d p q h1 b l1 l2 hp g c=>?_,S.lo,S.bs,S.old,S.os,S.tape,S.output,λk=>(S.kV k).trans a⟩
 .obtain⟨p,ob,h1,b,l,m,n⟩:=S.objs i o hi f
  exact⟨p,ob,a _ _ h1,b,l,m,n.mono a⟩
 .obtain⟨r,_,e,_⟩:=S.objs i o h1 l1
  obtain⟨q',_,g2,_⟩:=S.objs j d b l2;have e1:=a _ _ e;rw[hp]at e1;cases e1;have e2:=a _ _ g2;rw[g]at e2;cases e2;exact S.inj i j o d p q h1 b l1 l2 e g2 c
theorem Sat.push(S:Sat K Z h w)(ob:Obj):Sat K Z h { w with heap:=w.heap.push ob }:=by
 refine⟨λi o hi e=>?_,S.inj,?_,?_,λb a=>?_,S.os,S.tape,S.output,S.kV⟩
 .obtain⟨p,c,h1,f,g,d,j⟩:=S.objs i o hi e
  exact⟨p,c,h1,f,g,by simp only;rw[Ic (lt_of_heap d)];exact d,j⟩
 .simp only[oP];have:=S.lo;omega
 .intro b a;simp only[oP];have:=S.bs b a;omega
 .simp only
  rw[Ic (by have:=S.bs b a;omega)];exact S.old b a
theorem Sat.place(S:Sat K Z h w){i:Nat}{p:Nat×Nat}(hp:Z i=some p){ob:Obj}{o:AO}(s:w.heap[p.1]? =some ob)(h1:¬K.fz p.1)(t:K.own p.1)
 (m:∀j x q,h.tr.get j=some x->x.live->Z j=some q->q.1=p.1->j=i)(hr:RO K.P Z p.2 o ob):Sat K Z (h.put i o) w:=by
 refine⟨λj x e u=>?_,λa b x y q r e1 e2 l1 l2 l c d=>?_,S.lo,S.bs,S.old,S.os,S.tape,S.output,S.kV⟩
 .rcases AH.qW e with⟨rfl,rfl⟩|⟨v,z⟩
  .exact⟨p,ob,hp,h1,t,s,hr⟩
  .exact S.objs j x z u
 .rcases AH.qW e1 with⟨n,rfl⟩|⟨A,f⟩<;>rcases AH.qW e2 with⟨g,rfl⟩|⟨B,k⟩
  .rw[n,g]
  .subst n
   rw[hp]at l;cases l;exact aX (m b y r k l2 c d.symm) B
  .subst g
   rw[hp]at c;cases c;exact aX (m a x q f l1 l d) A
  .exact S.inj a b x y q r f k l1 l2 l c d
theorem Sat.Fh(S:Sat K Z h w)(e:Z h.nx=none){o:AO}{ob:Obj}{cap:Nat}(hr:RO K.P (upd Z h.nx (w.heap.size,cap)) cap o ob):
 Sat K (upd Z h.nx (w.heap.size,cap)) (h.new o) { w with heap:=w.heap.push ob }:=by
 have f:=(S.push ob).mono (Am (p:=(w.heap.size,cap)) e);refine(f.place (i:=h.nx) (p:=(w.heap.size,cap)) (ob:=ob) (o:=o) (pI _ _ _) (by simp) (λg=>jL _ (S.bs _ g)) (K.nZ _ S.lo) (λj x q e1 l1 c b=>?_) hr).afX AH.Vm;by_cases a:j=h.nx
 .exact a
 .rw[upd_ne a]at c
  obtain⟨q',k,d,_,_,l,_⟩:=S.objs j x e1 l1;rw[c]at d;cases d;have:=lt_of_heap l;simp only at b;omega
theorem kP.Fh(ob:Obj)(K:Ctx):kP K w { w with heap:=w.heap.push ob } []:=
 ⟨by simp,λb a _=>Ic a,by simp⟩
theorem Sat.Rf(S:Sat K Z h w)(hp:Z i=some p)(n:h.tr.get i=some o0)(c:o0.live)(hr:RO K.P Z p.2 o ob):
 Sat K Z (h.put i o) { w with heap:=w.heap.setIfInBounds p.1 ob }:=by
 obtain⟨G,H,h1,A,I,J,Q⟩:=S.objs i o0 n c;obtain rfl:p=G:=by rw[hp]at h1;exact aN h1
 have s:p.1<w.heap.size:=lt_of_heap J;refine⟨λj x e B=>?_,λa b x y q r e1 e2 l1 l2 t d f=>?_,by simpa using S.lo,by simpa using S.bs,λb g=>?_,S.os,S.tape,S.output,S.kV⟩
 .rcases AH.qW e with⟨rfl,rfl⟩|⟨u,C⟩
  .exact⟨p,ob,hp,A,I,by simp[s],hr⟩
  .obtain⟨q,v,D,g2,L,M,N⟩:=S.objs j x C B
   refine⟨q,v,D,g2,L,?_,N⟩;have k:p.1≠q.1:=λz=>u (S.inj j i x o0 q p C n B c D hp z.symm);simp only;rw[bW k];exact M
 .rcases AH.qW e1 with⟨F,rfl⟩|⟨R,l⟩<;>rcases AH.qW e2 with⟨g,rfl⟩|⟨T,m⟩
  .rw[F,g]
  .exact S.inj a b o0 y q r (by rw[F];exact n) m c l2 t d f
  .exact S.inj a b x o0 q r l (by rw[g];exact n) l1 c t d f
  .exact S.inj a b x y q r l m l1 l2 t d f
 .simp only
  rw[bW (by intro O;exact A (O▸g))];exact S.old b g
theorem kP.Rf(ob:Obj)(h1:¬K.fz b)(a:K.own b){es:List Event}(d:∀e∈es,zM K w.heap.size e):kP K w { w with heap:=w.heap.setIfInBounds b ob } es:=
 ⟨by simp,λc _ f=>bW (λg=>f (by subst g;exact⟨h1,a⟩)),by simpa using d⟩
theorem Sat.forget(S:Sat K Z h w)(i:Nat):Sat K Z (h.put i .dead) w:=by
 refine⟨λj x e g=>?_,λa b x y q r e1 e2 l1 l2 k hr c=>?_,S.lo,S.bs,S.old,S.os,S.tape,S.output,S.kV⟩
 .rcases AH.qW e with⟨rfl,rfl⟩|⟨_,l⟩
  .exact g.elim
  .exact S.objs j x l g
 .rcases AH.qW e1 with⟨_,rfl⟩|⟨_,d⟩
  .exact l1.elim
  .rcases AH.qW e2 with⟨_,rfl⟩|⟨_,f⟩
   .exact l2.elim
   .exact S.inj a b x y q r d f l1 l2 k hr c
theorem kP.refl(K:Ctx)(w:World){es:List Event}(a:∀e∈es,zM K w.heap.size e):kP K w w es:=⟨aj _,λ_ _ _=>rfl,a⟩
theorem kP.trans{w1 w2 d:World}{e1 e2:List Event}(h1:kP K w1 w2 e1)(c:kP K w2 d e2):kP K w1 d (e1++e2):=
 ⟨aS h1.size c.size,λb f g=>(c.kept b (jv f h1.size) g).trans (h1.kept b f g),λe a=>by
  rcases bQ.1 a with a|a
  .exact(h1.evs e a).mono c.size
  .exact c.evs e a⟩
theorem kP.drawn(K:Ctx)(w:World)(d:Nat):kP K w { w with drawn:=d } []:=⟨aj _,λ_ _ _=>rfl,by simp⟩
end
end
section
variable{T el t:TypeId}{a v x:AV}{b cap off:Nat}{c:Array Value}{fz:Nat×Nat}{l:List AV}{o:AO}{u:Value}
section
variable{P:Program}{K:Ctx}{ι:Nm}{h:AH}{w:World}{E:Env}
def fV(P:Program)(K:Ctx)(ι:Nm)(h:AH)(w:World)(s:Sem Value)(v:AV)(h':AH):Prop:=Free ι h.nx h'.nx->
 ∃ι' w' a es,ak P s w a w' es∧Grow ι ι' h.nx h'.nx∧Sat K ι' h' w'∧RV ι' v a∧kP K w w' es∧h'.df=h.df
def yE(P:Program)(K:Ctx)(ι:Nm)(h:AH)(w:World)(s:Sem Unit)(h':AH):Prop:=Free ι h.nx h'.nx->
 ∃ι' w' es,ak P s w () w' es∧Grow ι ι' h.nx h'.nx∧Sat K ι' h' w'∧kP K w w' es∧h'.df=h.df
theorem fV.aG{α:Type}{s:Sem α}{f:α->Sem Value}{x:α}{a:AV}{h':AH}(h1:ak P s w x w [])(b:fV P K ι h w (f x) a h'):fV P K ι h w (s>>=f) a h':=λc=>by
 obtain⟨ι',w',d,es,e,g⟩:=b c;exact⟨ι',w',d,es,ak.aG h1 e,g⟩
theorem fV.lC{α:Type}{s:Sem α}{f:α->Sem Value}{x:α}{a:AV}{h':AH}{e1:List Event}(h1:ak P s w x w e1)(b:∀e∈e1,zM K w.heap.size e)(c:fV P K ι h w (f x) a h'):fV P K ι h w (s>>=f) a h':=λd=>by
 obtain⟨ι',w',g,es,i,j,k,l,m,n⟩:=c d;exact⟨ι',w',g,e1++es,ak.bind h1 i,j,k,l,(kP.refl K w b).trans m,n⟩
theorem yE.aG{α:Type}{s:Sem α}{f:α->Sem Unit}{x:α}{h':AH}(h1:ak P s w x w [])(a:yE P K ι h w (f x) h'):yE P K ι h w (s>>=f) h':=λb=>by
 obtain⟨ι',w',es,c,d⟩:=a b;exact⟨ι',w',es,ak.aG h1 c,d⟩
theorem yE.lC{α:Type}{s:Sem α}{f:α->Sem Unit}{x:α}{h':AH}{e1:List Event}(h1:ak P s w x w e1)(a:∀e∈e1,zM K w.heap.size e)(b:yE P K ι h w (f x) h'):yE P K ι h w (s>>=f) h':=λc=>by
 obtain⟨ι',w',es,d,g,i,j,k⟩:=b c;exact⟨ι',w',e1++es,ak.bind h1 d,g,i,(kP.refl K w a).trans j,k⟩
theorem yE.val{s:Sem Unit}{h':AH}{f:Unit->Sem Value}(h1:yE P K ι h w s h')(c:∀ι',Ext ι ι'->RV ι' v u)(d:∀w,ak P (f ()) w u w []):fV P K ι h w (s>>=f) v h':=λa=>by
 obtain⟨ι',w',es,e,b,g,i,j⟩:=h1 a;exact⟨ι',w',u,es,by simpa using ak.bind e (d w'),b,g,c ι' (b.ext a),i,j⟩
theorem abM{vs:List AV}(h:dS ι vs c.toList):RO P ι cap (.cells vs el false false) (.cells c el (0,0)):=
 ⟨c,0,0,rfl,⟨c.toList,[],by simp,h⟩,λ_=>by have:=h.length;simp at this;omega,λh=>(by cases h),λ_=>⟨λo _=>by omega,λ_=>⟨rfl,rfl⟩⟩⟩
theorem Yw(S:Sat K ι h w)(a:ι h.nx=none){vs:List AV}{c:Array Value}{el:TypeId}(b:dS ι vs c.toList):
 ∃ι' w',ak P (newRow el c) w ⟨w.heap.size,0,none⟩ w' []∧Grow ι ι' h.nx (h.nx+1)∧Sat K ι' (h.new (.cells vs el false false)) w'∧(∃k,ι' h.nx=some (w.heap.size,k))∧kP K w w' []:=by
 have d:Ext ι (upd ι h.nx (w.heap.size,0)):=Am a;refine⟨upd ι h.nx (w.heap.size,0),_,?_,Grow.upd,S.Fh a (cap:=0) (abM (b.mono d)),⟨0,pI _ _ _⟩,kP.Fh _ K⟩;unfold newRow;exact ak.bind (e1:=[]) (e2:=[]) (ak.new _) (ak.pure _)
theorem FQ(a:Free ι h.nx (h.new o).nx):ι h.nx=none:=a _ (aj _) (by rw[AH.mZ];omega)
theorem AA(S:Sat K ι h w){vs:List AV}(e:dS ι vs c.toList){f:Addr->Sem Value}(g:Nat->Value)
 (i:∀b w,ak P (f ⟨b,0,none⟩) w (g b) w [])(j:∀ι' k b,ι' h.nx=some (b,k)->RV ι' a (g b)):
 fV P K ι h w (newRow el c>>=f) a (h.new (.cells vs el false false)):=λd=>by
 obtain⟨ι',w',h1,l,m,⟨k,n⟩,o⟩:=Yw (P:=P) (el:=el) S (FQ d) e;exact⟨ι',w',_,[],by simpa using ak.bind h1 (i _ w'),by rw[AH.mZ];exact l,m,j _ _ _ n,o,AH.yM⟩
theorem Y5(F:Fits P E)(S:Sat K ι h w){h':AH}(e:vH E h t=some (.val v h')):fV P K ι h w (Instr.alloc t true (.tuple #[])) v h':=by
 unfold vH at e;split at e
 .rename_i ti c
  cases e;obtain⟨z,d,_,a,_⟩:=nT (w:=w) (ι:=ι) F c;refine fV.aG d ?_;exact AA S a (λb=> .pointer (some ⟨b,0,none⟩)) (λb w=>ak.pure _) (λι' k b f=>xO f)
 .cases e
theorem adn(S:Sat K ι h w){h':AH}(e:Gh E h t x=some (.val v h'))(a:RV ι x u):fV P K ι h w (Instr.box t u) v h':=by
 unfold Gh at e;split at e
 .rename_i ti g
  obtain⟨c,e⟩:=dO e;cases e;have d:dS ι x.cells u.cells.toList:=a.cells (.inl c);exact AA S d (λb=> .pointer (some ⟨b,0,none⟩)) (λb w=>ak.pure _) (λι' k b f=>xO f)
 .cases e
def wr(c:Array Value)(off:Nat):List Value->Array Value
 |[]=>c
 |v::vs=>wr (c.setIfInBounds off v) (off+1) vs
theorem EM(c:Array Value)(off:Nat)(vs:List Value):(wr c off vs).size=c.size:=by
 induction vs generalizing c off with
 |nil=>rfl
 |cons v vs a=>rw[wr,a];simp
theorem Yk(h:vO (a::l)=true){v:Value}(b:RV ι a v):(∀cs,v≠.agg cs)∧(∀cs,v≠.tuple cs):=by
 unfold vO at h;rw[aF]at h;have h:=h.1;cases a<;>first
  |exact aX h Bool.false_ne_true
  |(unfold RV at b
    first
     |(refine⟨λcs h=>?_,λcs h=>?_⟩<;>(subst h;cases(b:false=true)))
     |(subst b;exact⟨λ_ h=>(by cases h),λ_ h=>(by cases h)⟩)
     |(obtain⟨_,_,rfl⟩:=b;exact⟨λ_ h=>(by cases h),λ_ h=>(by cases h)⟩)
     |(obtain⟨_,_,_,rfl,_⟩:=b;exact⟨λ_ h=>(by cases h),λ_ h=>(by cases h)⟩)
     |(obtain⟨_,_,rfl,_⟩:=b;exact⟨λ_ h=>(by cases h),λ_ h=>(by cases h)⟩)
     |(obtain⟨rfl,_,_⟩:=b;exact⟨λ_ h=>(by cases h),λ_ h=>(by cases h)⟩)
     |(obtain⟨_,rfl,_⟩:=b;exact⟨λ_ h=>(by cases h),λ_ h=>(by cases h)⟩))
theorem setCell_eq(d:w.heap[b]? =some (.cells c T fz))(v:Value):
 w.setCell ⟨b,off,none⟩ v={ w with heap:=w.heap.setIfInBounds b (.cells (c.setIfInBounds off v) T fz) }:=by
 unfold World.setCell;congr 1;apply oL;intro i;rw[Array.getElem?_modify];by_cases h:b=i
 .subst h
  obtain⟨a,hb2⟩:=aV.1 d;simp[a,hb2]
 .simp[h]
theorem vK{b off:Nat}{T:TypeId}{lo hi:Nat}:∀(as:List AV) (vs:List Value) (k:Nat) (w:World) (c:Array Value),dS ι as vs->vO as=true->
 w.heap[b]? =some (.cells c T (lo,hi))->off+k+vs.length<=c.size->(∀o,o<c.size->¬(lo<=o∧o<hi))->
 ∃es,ak P (storeCells ⟨b,off,none⟩ vs k) w () { w with heap:=w.heap.setIfInBounds b (.cells (wr c (off+k) vs) T (lo,hi)) } es∧∀e∈es,∃o,e=⟨.cell ⟨b,o,none⟩,true,false⟩
 |[],vs,k,w,c,q,_,d,_,_=>by
  rw[bU q];have l:b<w.heap.size:=by rw[aV]at d;exact d.1
  have:w.heap.setIfInBounds b (.cells (wr c (off+k) []) T (lo,hi))=w.heap:=by
   apply oL;intro i;rw[Array.getElem?_setIfInBounds];split
   .rename_i h;subst h
    rw[d];rfl
   .rfl
  rw[this];exact⟨[],ak.pure _,by simp⟩
 |a::as,vs,k,w,c,q,p,d,m,u=>by
  obtain⟨v,r,rfl,h1,y⟩:=bf q;obtain⟨z,A⟩:=Yk p h1;have s:vO as=true:=by unfold vO at p;rw[aF]at p;exact p.2
  have l:b<w.heap.size:=by rw[aV]at d;exact d.1
  have x:off+k<c.size:=by simp at m;omega
  have g:w.cell? ⟨b,off+k,none⟩=some c[off+k]:=by rw[cell_of d];simp[x]
  have t:w.frozen? ⟨b,off+k,none⟩=false:=by
   rw[Ig d];have:=u _ x;by_cases n:lo<=off+k
   .simp only[n,decide_true,Bool.true_and,rQ];omega
   .simp[n]
  have n:=ak.store (P:=P) g t z A;rw[setCell_eq d]at n;obtain⟨es,B,C⟩:=vK (b:=b) (off:=off) (T:=T) (lo:=lo) (hi:=hi) as r (k+1) { w with heap:=w.heap.setIfInBounds b (.cells (c.setIfInBounds (off+k) v) T (lo,hi)) } (c.setIfInBounds (off+k) v) y s
   (by simp[l]) (by simp only[fB]at m;simp only[Array.size_setIfInBounds];omega) (λo D=>u o (by simpa using D))
  refine⟨_,by
   unfold storeCells;rw[oM];have:=ak.bind (f:=λ_=>storeCells ⟨b,off,none⟩ r (k+1)) n B;rw[show wr c (off+k) (v::r)=wr (c.setIfInBounds (off+k) v) (off+(k+1)) r from rfl];have e2:(w.heap.setIfInBounds b (.cells (c.setIfInBounds (off+k) v) T (lo,hi))).setIfInBounds b (.cells (wr (c.setIfInBounds (off+k) v) (off+(k+1)) r) T (lo,hi))=w.heap.setIfInBounds b (.cells (wr (c.setIfInBounds (off+k) v) (off+(k+1)) r) T (lo,hi)):=by
    apply oL;intro i;simp only[Array.getElem?_setIfInBounds];split<;>simp_all
   simp only[e2]at this;exact this,?_⟩
  intro e j;rcases bQ.1 j with j|j
  .simp at j;subst j;exact⟨_,rfl⟩
  .exact C e j
theorem ae8{as:List AV}{vs:List Value}{l:List AV}{c:Array Value}{l2:List Value}{off:Nat}(h:dS ι as vs)(d:∃l1,c.toList=l1++l2∧dS ι l l1)(b:off+vs.length<=l.length):
 ∃l1,(wr c off vs).toList=l1++l2∧dS ι (setAt l off as) l1:=by
 induction as generalizing vs l c off with
 |nil=>rw[bU h];exact d
 |cons a as e=>
  obtain⟨v,r,rfl,h1,f⟩:=bf h;obtain⟨l1,e1,e2⟩:=d;have g:=e2.length;refine e (l:=l.set off a) (c:=c.setIfInBounds off v) (off:=off+1) f ⟨l1.set off v,?_,e2.set _ h1⟩ (by simp at b ⊢;omega);rw[Array.toList_setIfInBounds,e1,List.set_append_left];simp at b;omega
theorem wF(S:Sat K ι h w){id off:Nat}{as:List AV}{h':AH}{p:Nat×Nat}(hp:ι id=some p)(e:fE h id off as=some h'){vs:List Value}(j:dS ι as vs):
 yE P K ι h w (storeCells ⟨p.1,off,none⟩ vs 0) h':=λ_=>by
 unfold fE at e;split at e
 .rename_i l el g d
  obtain⟨f,rfl⟩:=fJ e;rw[aF]at f;obtain⟨i,v⟩:=f;have i:=aJ i;obtain⟨q,ob,r,hb1,a,k,x,c,lo,hi,rfl,⟨l1,l2,f,s⟩,h1,y,m⟩:=S.at d trivial;obtain rfl:p=q:=by rw[hp]at r;exact aN r
  have t:=j.length;have z:=s.length;have A:c.size=l1.length+l2.length:=by have:=gu List.length f;simpa using this
  obtain⟨es,B,g2⟩:=vK (P:=P) (ι:=ι) (b:=p.1) (off:=off) (T:=el) (lo:=lo) (hi:=hi) as vs 0 w c j v x (by omega) (m rfl).1;obtain⟨C,e1,e2⟩:=ae8 (c:=c) (off:=off) (l2:=l2) j ⟨l1,f,s⟩ (by omega);refine⟨ι,_,es,B,by rw[AH.sD];exact Grow.refl _ _,S.Rf hp (AH.uO d trivial) trivial ⟨wr c off vs,lo,hi,rfl,⟨C,l2,e1,e2⟩,λn=>?_,λn=>?_,λu=>⟨λo d=>?_,(m u).2⟩⟩,kP.Rf _ hb1 a ?_,AH.wV⟩
  .rw[EM,EW];exact h1 n
  .rw[EM];exact y n
  .rw[EM]at d;exact(m u).1 o d
  .intro e D
   obtain⟨o,rfl⟩:=g2 e D;exact⟨.inl ⟨hb1,a⟩,k⟩
 .cases e
theorem Yf(F:Fits P E)(S:Sat K ι h w){h':AH}(e:jH E h t a x=some (.val v h')){y:Value}(f:RV ι a u)(g:RV ι x y):
 yE P K ι h w (Instr.storeAt t u y) h'∧v=iw:=by
 unfold jH at e;split at e
 .rename_i ti id off ht
  obtain⟨i,e⟩:=dO e;obtain⟨j,e⟩:=jf e;cases b:fE h id off x.cells with
  |none=>rw[b]at e;cases e
  |some h1=>
   rw[b]at e;cases e;obtain⟨p,hp,rfl⟩:=jF f;obtain⟨c,d⟩:=Lh g i j;refine⟨?_,rfl⟩;show yE P K ι h w (Pure.pure (⟨p.1,off,none⟩:Addr)>>=λa=>storeVar t a y) h';refine yE.aG (ak.pure _) ?_;unfold storeVar;refine yE.aG (dW (lI F ht)) ?_;simp only[d,ne_eq,not_true_eq_false,if_false];exact wF S hp b c
 .cases e
end
end
section
variable{c:Array Value}{i:Nat}{o:AO}{t:TypeId}{u vk vm vx:Value}{v x:AV}{vr:Option Value}
section
variable{P:Program}{K:Ctx}{Z:Nm}{h:AH}{w:World}{E:Env}
theorem tZ(n:Nat)(z:List AV):(rep n z).length=n*z.length:=by
 induction n with
 |zero=>simp[rep]
 |succ n a=>rw[rep,bC,a,nX];omega
theorem WY{z:List AV}:∀(n i:Nat),i<n*z.length->(rep n z)[i]? =z[i % z.length]?
 |0,i,h=>by simp at h
 |n+1,i,h=>by
  rw[rep];by_cases hi:i<z.length
  .rw[aW hi,Nat.mod_eq_of_lt hi]
  .rw[bD (by omega),WY n (i - z.length) (by rw[Nat.succ_mul]at h;omega),Nat.mod_eq_sub_mod (a:=i) (by omega)]
theorem X6{z:List AV}(h:dS Z z c.toList)(n k:Nat)(j:k=n*z.length):dS Z (rep n z) ((Array.range k).map (c[·% c.size]!)).toList:=by
 have b:z.length=c.size:=by rw[h.length];simp
 refine dS.Ht (by simp[tZ,j]) λi a v h1 f=>?_;have hi:i<n*z.length:=by
  have:=h1;rw[aA]at this;obtain⟨d,_⟩:=this;rw[tZ]at d;exact d
 rw[WY n i hi]at h1;obtain⟨l,e,hr⟩:=h.get h1;have:v=l:=by
  rw[bI,jy]at f;rw[bI]at e;have g:(Array.range k)[i]? =some i:=by rw[Array.getElem?_range];simp[j,hi]
  rw[g]at f;simp only[kD,dh]at f;rw[← f,← b];rw[Array.getElem!_eq_getD,bg,e];rfl
 rw[this];exact hr
theorem Tf{n:Int}(h1:0<=n)(a:n<9223372036854775808):IntKind.i64.wrap n=n:=IntWalk.i64_in n (by omega)
theorem Lr(F:Fits P E)(S:Sat K Z h w){t:TypeId}{len:Nat}{ps:List (Nat×AV)}{vs:Array (Nat×Value)}{v:AV}{h':AH}(e:jh E h t len ps=some (.val v h'))(s:RVp Z ps vs.toList):
 fV P K Z h w (Instr.buildSlice t len vs) v h':=by
 unfold jh at e;split at e
 .rename_i el u
  split at e
  .rename_i a o
   obtain⟨p,e⟩:=dO e;have p:¬(65536<len*a.size):=λh=>by rw[← dB,p]at h;cases h
   cases f:BJ (λi=>some (i*a.size,a.size)) (rep len a.zero) ps with
   |none=>rw[f]at e;cases e
   |some r=>
    rw[f]at e;cases e;obtain⟨z,x,_,g,y,d⟩:=nT (w:=w) (ι:=Z) F o;unfold Instr.buildSlice;refine fV.aG (ak.underlying (eu F u)) ?_;refine fV.aG (dW (lI F o)) ?_;have j:¬(len*a.size>2 ^ 24):=by omega
    simp only[j,if_false];have tail:∀c:Array Value,dS Z (rep len a.zero) ((Array.range (len*a.size)).map (c[·% c.size]!)).toList->fV P K Z h w (do
     let some cells := Instr.fill (λ i => some (i * a.size, a.size)) ((Array.range (len * a.size)).map (c[· % c.size]!)) vs.toList | stuck "buildSlice: a part of the wrong size"
     Pure.pure (.slice (some (← newRow el cells)) len len)) (.sl h.nx 0 len (some len)) (h.new (.cells r el false false)):=by
     intro c l;obtain⟨C,m,hr⟩:=FV (place:=λi=>some (i*a.size,a.size)) (λi q A=>A) f s l;simp only[m];exact AA S hr (λb=> .slice (some ⟨b,0,none⟩) len len) (λb w=>ak.pure _) (λι' k b n=>by
      unfold RV;exact⟨_,n,len,rfl,aj _,λk n=>by cases n;rfl,λB=>by cases B⟩)
    by_cases h0:len*a.size=0
    .rw[aC h0]
     refine fV.aG (ak.pure _) (tail #[] ?_);rw[h0];have:rep len a.zero=[]:=bM.1 (by rw[tZ,d];exact h0);rw[this];simp;exact dG
    .rw[ah h0]
     exact fV.aG x (fV.aG (ak.pure _) (tail z.cells (X6 g len _ (by rw[d]))))
  .cases e
 .cases e
theorem MH(F:Fits P E)(S:Sat K Z h w){l c:AV}{C D:Value}{h':AH}(e:iy E h t l c=some (.val v h'))(I:RV Z l C)(J:RV Z c D):
 fV P K Z h w (Instr.makeSlice t C D) v h':=by
 unfold iy at e;split at e
 .rename_i el k n k' m L
  split at e
  .rename_i g G
   obtain⟨H,e⟩:=fJ e;cases e;rw[aF,jW]at H;obtain⟨⟨M,N,O⟩,d⟩:=H;have d:=aJ d;obtain rfl:=iK I;obtain rfl:=iK J;obtain⟨i,z,hi,Y,q,Q,_,r,R,j⟩:=(lI F G).info;have s:ak P (zeroValue el) w z w []:=ak.zeroValue hi Q;unfold Instr.makeSlice;refine fV.aG (ak.underlying (eu F L)) ?_;refine fV.aG (x:=n) (ak.pure _) ?_;refine fV.aG (x:=m) (ak.pure _) ?_;refine fV.aG (ak.typeInfo hi) ?_;have T:IntKind.i64.wrap n=n:=Tf (by omega) (by omega);have U:IntKind.i64.wrap m=m:=Tf (by omega) (by omega);have V:(i.bytes:Int)*m<=4096*1048576:=by
    rw[q];exact Int.mul_le_mul (by omega) O (by omega) (by omega)
   have o:¬((i.bytes:Int)*m>2 ^ 48):=by omega
   have u:¬n<0:=by omega
   have y:¬m<0:=by omega
   have p:¬n>m:=by omega
   simp only[T,U,o,u,y,p,decide_false,Bool.or_false,gJ,if_false];have f:¬(m.toNat*i.bytes>roomBytes):=by
    unfold roomBytes;have h1:m.toNat<=1048576:=by omega
    have W:i.bytes<=4096:=by omega
    have:=Nat.mul_le_mul h1 W;omega
   refine fV.aG (x:=()) ?_ ?_
   .unfold askRoom;rw[ah f];exact ak.pure _
   refine fV.aG (dW (lI F G)) ?_;have tail:∀c:Array Value,dS Z (rep m.toNat g.zero) ((Array.range (m.toNat*g.size)).map (c[·% c.size]!)).toList->fV P K Z h w (do
    let a ← newRow el ((Array.range (m.toNat*g.size)).map (c[·% c.size]!))
    Pure.pure (.slice (some a) n.toNat m.toNat)) (.sl h.nx 0 n.toNat (some m.toNat)) (h.new (.cells (rep m.toNat g.zero) el false false)):=by
    intro c A;exact AA S A (λb=> .slice (some ⟨b,0,none⟩) n.toNat m.toNat) (λb w=>ak.pure _) (λι' k b B=>by
     unfold RV;exact⟨_,B,m.toNat,rfl,by omega,λk B=>by cases B;rfl,λX=>by cases X⟩)
   by_cases h0:m.toNat*g.size=0
   .rw[aC h0]
    refine fV.aG (ak.pure _) (tail #[] ?_);rw[h0];have:rep m.toNat g.zero=[]:=bM.1 (by rw[tZ,j];exact h0);rw[this];simp;exact dG
   .rw[ah h0]
    exact fV.aG s (fV.aG (ak.pure _) (tail z.cells (X6 (r Z) m.toNat _ (by rw[j]))))
  .cases e
 .cases e
theorem Lc{b:Bool}{x:AO}(e:cond b o .dead=x)(a:x.live):b=true∧o=x:=by
 cases b with
 |true=>exact⟨rfl,e⟩
 |false=>subst e;exact a.elim
theorem kS(S:Sat K Z h w){id:Nat}{p:Nat×Nat}(hp:Z id=some p){i:AO}(j:h.obj id=i)(b:i.live){a:Obj}(r:w.heap[p.1]? =some a)(d:∀c e f,a≠.cells c e f)
 {o:AO}{ob:Obj}(hr:RO K.P Z p.2 o ob)(g:ob.isChan=false):yE P K Z h w (Go.setObj p.1 ob) (h.put id o):=λ_=>by
 obtain⟨q,s,k,l,m,t,u,_⟩:=S.at j b;obtain rfl:p=q:=by rw[hp]at k;exact aN k
 refine⟨Z,_,_,ak.setObj r d,by rw[AH.sD];exact Grow.refl _ _,S.Rf hp (AH.uO j b) b hr,kP.Rf _ l m ?_,AH.wV⟩;intro e n;simp only[bY]at n;subst n;exact⟨l,m,t,g⟩
theorem Nw(S:Sat K Z h w){f:Nat->Sem Value}(d:∀b w,ak P (f b) w (.map (some b)) w []):fV P K Z h w (newObj (.map #[] 0)>>=f) (.map h.nx) (h.new (.map [] 0)):=λa=>by
 have c:=FQ a;refine⟨upd Z h.nx (w.heap.size,0),{ w with heap:=w.heap.push (.map #[] 0) },.map (some w.heap.size),[],?_,by rw[AH.mZ];exact Grow.upd,S.Fh c ⟨#[],rfl,rfl⟩,?_,kP.Fh _ K,AH.yM⟩
 .exact ak.bind (e1:=[]) (e2:=[]) (ak.new _) (d _ _)
 .unfold RV;exact⟨_,pI _ _ _,rfl⟩
theorem Si(F:Fits P E)(S:Sat K Z h w){r:Option AV}{h':AH}(e:lg E h t r=some (.val v h'))(hr:X7 Z r vr):
 fV P K Z h w (Instr.makeMap t vr) v h':=by
 unfold lg at e;split at e
 .cases e
  have:vr=none:=hr;subst this;unfold Instr.makeMap;exact Nw S (λb w=>ak.pure _)
 .rename_i k n
  split at e
  .rename_i d el a
   cases e;obtain⟨u,rfl,c⟩:=hr;obtain rfl:=iK c;unfold Instr.makeMap;refine fV.aG (ak.underlying (lW F a).1) ?_;refine fV.aG (x:=n) (ak.pure _) ?_;exact Nw S (λb w=>ak.pure _)
  .cases e
 .cases e
theorem TK{y:AV}{v:Value}(e:UQ x y=some true)(c:RV Z x v)(d:RV Z y u):v=u∧∀n,Instr.sameBits n v v=true:=by
 cases x<;>cases y<;>try (cases e;done)
 .rename_i a b
  simp only[UQ,dh,oH]at e;subst e;rw[qQ c,qQ d];exact⟨rfl,λn=>by cases n<;>simp[Instr.sameBits]⟩
 .rename_i k a k' b
  simp only[UQ]at e;obtain⟨h1,f⟩:=fJ e;rw[nJ h1]at c;simp only[oH]at f;subst f;rw[iK c,iK d];exact⟨rfl,λn=>by cases n<;>simp[Instr.sameBits]⟩
 .rename_i a b
  simp only[UQ,dh,oH]at e;subst e;rw[nG c,nG d];refine⟨rfl,λn=>?_⟩;have:((⟨a.toArray⟩:ByteArray)==⟨a.toArray⟩)=true:=by rw[bytes_beq];simp
  cases n<;>simpa[Instr.sameBits]using this
theorem TL:∀{l m:List AV} {vs c:List Value},D6 l m=some true->dS Z l vs->dS Z m c->vs=c∧∀n,(vs.zip vs).all (λ(x,y)=>Instr.sameBits n x y)=true
 |[],[],vs,c,_,h1,d=>by rw[bU h1,bU d];exact⟨rfl,λ_=>rfl⟩
 |[],_::_,_,_,e,_,_=>by cases e
 |_::_,[],_,_,e,_,_=>by cases e
 |a::l,b::m,vs,c,e,h1,d=>by
  obtain⟨v,r,rfl,f,g2⟩:=bf h1;obtain⟨u,s,rfl,g,i⟩:=bf d;simp only[D6]at e;split at e
  .cases e
  .split at e<;>cases e
  .rename_i j
   obtain⟨k,o⟩:=TK j f g;obtain⟨p,q⟩:=TL e g2 i;subst k;subst p;exact⟨rfl,λn=>by simp only[List.zip_cons_cons,List.all_cons,o n,q n,Bool.and_self]⟩
theorem TM{y:AV}{v:Value}(e:eqK x y=some true)(f:RV Z x v)(g:RV Z y u):v=u∧Instr.sameBits 10000 v v=true:=by
 unfold eqK at e;split at e
 .obtain⟨c,rfl,i⟩:=sO f
  obtain⟨d,rfl,j⟩:=sO g;obtain⟨h1,a⟩:=TL e i j;have b:c=d:=dH.1 h1;subst b;refine⟨rfl,?_⟩;show Instr.sameBits (9999+1) _ _=true;rw[Instr.sameBits];simp only[beq_self_eq_true,Bool.true_and];exact a 9999
 .obtain⟨h1,a⟩:=TK e f g
  exact⟨h1,a 10000⟩
theorem SI{v:Value}(a:Instr.sameBits 10000 v v=true):ak P (Instr.keyThatStays v v) w v w []:=by
 unfold Instr.keyThatStays;rw[aC a];exact ak.pure _
theorem KR{k:AV}:∀{es:List AE} {j i:Nat} {v:AV},AL k es j=some (some (i,v))->∃a,es[i - j]? =some a∧eqK k a.key=some true∧v=a.val∧j<=i
 |[],_,_,_,e=>by cases e
 |a::es,j,i,v,e=>by
  simp only[AL]at e;split at e
  .cases e
  .rename_i c
   cases e;exact⟨a,by simp,c,rfl,aj _⟩
  .obtain⟨b,h1,d,f,g⟩:=KR e
   refine⟨b,?_,d,f,by omega⟩;have:i - j=(i - (j+1))+1:=by omega
   rw[this];simpa using h1
theorem yG.get{l:List AE}{es:List MapEntry}(hr:yG Z l es){a:AE}(hi:l[i]? =some a):∃e,es[i]? =some e∧RV Z a.key e.key∧RV Z a.val e.val∧e.born=a.born:=by
 induction l generalizing es i with
 |nil=>simp at hi
 |cons x l b=>
  obtain⟨e,r,rfl,h1,c,d,f⟩:=hr;cases i with
  |zero=>simp at hi;subst hi;exact⟨e,rfl,h1,c,d⟩
  |succ i=>simp at hi;simpa using b f hi
theorem yG.modify{l:List AE}{es:List MapEntry}(hr:yG Z l es)(i:Nat){f:AE->AE}{g:MapEntry->MapEntry}
 (b:∀a e,l[i]? =some a->es[i]? =some e->RV Z a.key e.key->RV Z a.val e.val->e.born=a.born->RV Z (f a).key (g e).key∧RV Z (f a).val (g e).val∧(g e).born=(f a).born):
 yG Z (l.modify i f) (es.modify i g):=by
 induction l generalizing es i with
 |nil=>
  have:es=[]:=hr;subst this;simp;rfl
 |cons x l k=>
  obtain⟨e,r,rfl,h1,c,d,j⟩:=hr;cases i with
  |zero=>
   obtain⟨m,g2,n⟩:=b x e rfl rfl h1 c d;rw[List.modify_zero_cons,List.modify_zero_cons];exact⟨_,_,rfl,m,g2,n,j⟩
  |succ i=>
   rw[List.modify_succ_cons,List.modify_succ_cons];exact⟨e,_,rfl,h1,c,d,k j i λa o p q=>b a o (by simpa using p) (by simpa using q)⟩
theorem yG.append{l m:List AE}{es b:List MapEntry}(hr:yG Z l es)(a:yG Z m b):yG Z (l++m) (es++b):=by
 induction l generalizing es with
 |nil=>
  have:es=[]:=hr;subst this;exact a
 |cons x l c=>
  obtain⟨e,r,rfl,h1,d,f,g⟩:=hr;exact⟨e,_,rfl,h1,d,f,c g⟩
theorem yG.erase{l:List AE}{es:List MapEntry}(hr:yG Z l es)(i:Nat):yG Z (l.eraseIdx i) (es.eraseIdx i):=by
 induction l generalizing es i with
 |nil=>
  have:es=[]:=hr;subst this;simp;rfl
 |cons x l b=>
  obtain⟨e,r,rfl,h1,c,d,a⟩:=hr;cases i with
  |zero=>simpa using a
  |succ i=>simp only[List.eraseIdx_cons_succ];exact⟨e,_,rfl,h1,c,d,b a i⟩
theorem DZ(F:Fits P E)(S:Sat K Z h w){m k:AV}{h':AH}(e:jO E h t m k x=some (.val v h'))(I:RV Z m vm)(j:RV Z k vk)(C:RV Z x vx):
 yE P K Z h w (Instr.mapUpdate t vm vk vx) h'∧v=iw:=by
 unfold jO at e;split at e
 .rename_i Q el id hd
  split at e
  .rename_i es ck l
   obtain⟨n,l⟩:=Lc l trivial;obtain⟨p,hp,rfl⟩:=sH I;obtain⟨q,ob,D,J,L,R,s,u,rfl,hr⟩:=S.at l trivial;obtain rfl:p=q:=by rw[hp]at D;exact aN D
   obtain⟨G,g2⟩:=ak.oz (P:=P) (K:=K) s (by simp) rfl J L;split at e
   .cases e
   .rename_i i T r
    cases e;refine⟨?_,rfl⟩;obtain⟨c,y,d,b⟩:=sK (w:=w) F n j r hr;cases y with
    |none=>exact b.elim
    |some q'=>
     obtain⟨U,V⟩:=q';obtain⟨hi,_⟩:=b;simp only at hi;subst hi;obtain⟨a,H,z,_⟩:=KR r;simp only[Nat.sub_zero]at H;obtain⟨en,A,B,M,N⟩:=hr.get H;obtain⟨f,g⟩:=TM z j B;have o:((u[i]?).map (·.key)).getD vk=vk:=by
      rw[← bI,A];simp[f]
     unfold Instr.mapUpdate;refine yE.aG (ak.underlying (lW F hd).1) ?_;refine yE.lC G g2 ?_;refine yE.aG (c _) ?_;refine yE.aG d ?_;simp only[o];refine yE.aG (SI g) ?_;refine kS S hp l trivial s (by simp) ⟨_,rfl,?_⟩ rfl;rw[Array.toList_modify];exact hr.modify i λa e _ _ _ _ O=>⟨j,C,O⟩
   .rename_i r
    cases e;refine⟨?_,rfl⟩;obtain⟨c,y,d,b⟩:=sK (w:=w) F n j r hr;cases y with
    |some q'=>exact b.elim
    |none=>
     unfold Instr.mapUpdate;refine yE.aG (ak.underlying (lW F hd).1) ?_;refine yE.lC G g2 ?_;refine yE.aG (c _) ?_;refine yE.aG d ?_;refine kS S hp l trivial s (by simp) ⟨_,rfl,?_⟩ rfl;rw[Array.toList_push];exact hr.append ⟨_,[],rfl,j,C,rfl,rfl⟩
  .cases e
 .cases e
theorem Pe(F:Fits P E)(S:Sat K Z h w){m k:AV}{h':AH}(e:oU E h t m k=some (.val v h'))(R:RV Z m vm)(n:RV Z k vk):
 fV P K Z h w (Instr.mapEntry t vm vk) v h':=by
 unfold oU at e;split at e
 .rename_i kt el id hd
  split at e
  .rename_i es ck ei o T
   obtain⟨r,o⟩:=Lc o trivial;obtain⟨p,hp,rfl⟩:=sH R;obtain⟨q,ob,O,U,V,b3,C,s,rfl,hr⟩:=S.at o trivial;obtain rfl:p=q:=by rw[hp]at O;exact aN O
   obtain⟨Q,g2⟩:=ak.oz (P:=P) (K:=K) C (by simp) rfl U V;split at e
   .cases e
   .rename_i i v' B
    split at e
    .rename_i D c
     cases e;obtain⟨d,G,f,b⟩:=sK (w:=w) F r n B hr;cases G with
     |none=>exact b.elim
     |some q'=>
      obtain⟨i',u'⟩:=q';obtain⟨hi,H⟩:=b;simp only at hi;subst hi;obtain⟨a,I,J,_⟩:=KR B;simp only[Nat.sub_zero]at I;rw[c]at I;cases I;obtain⟨en,u,L,W,M⟩:=hr.get c;obtain⟨g,j⟩:=TM J n L;have y:((s[i]?).map (·.key)).getD vk=vk:=by
       rw[← bI,u];simp[g]
      have l:((s[i]?).map (λx=>(x.born:Int))).getD 0=D.born:=by
       rw[← bI,u];simp[M]
      unfold Instr.mapEntry;refine fV.aG (ak.underlying (lW F hd).1) ?_;refine fV.lC Q g2 ?_;refine fV.aG (d _) ?_;refine fV.aG f ?_;simp only[y,l];refine fV.aG (SI j) ?_;refine yE.val (kS S hp o trivial C (by simp) ⟨_,rfl,?_⟩ rfl) (λι' N=>vM (cO (H.mono N) (cO jU dG))) (λw=>ak.pure _);rw[Array.toList_modify];exact hr.modify i λa e _ _ _ X Y=>⟨n,X,Y⟩
    .cases e
   .rename_i B
    cases e;obtain⟨z,hz,A,_⟩:=nT (w:=w) (ι:=Z) F T;obtain⟨d,G,f,b⟩:=sK (w:=w) F r n B hr;cases G with
    |some q'=>exact b.elim
    |none=>
     unfold Instr.mapEntry;refine fV.aG (ak.underlying (lW F hd).1) ?_;refine fV.lC Q g2 ?_;refine fV.aG (d _) ?_;refine fV.aG f ?_;refine fV.aG hz ?_;refine yE.val (kS S hp o trivial C (by simp) ⟨_,rfl,?_⟩ rfl) (λι' N=>vM (cO (A.mono N) (cO jU dG))) (λw=>ak.pure _);rw[Array.toList_push];exact hr.append ⟨_,[],rfl,n,A,rfl,rfl⟩
  .cases e
 .cases e
theorem yG.findIdx{q:AE->Bool}{q':MapEntry->Bool}(b:∀a e,e.born=a.born->q a=q' e){l:List AE}{es:List MapEntry}(hr:yG Z l es):l.findIdx? q=es.findIdx? q':=by
 induction l generalizing es with
 |nil=>
  have:es=[]:=hr;subst this;rfl
 |cons x l c=>
  obtain⟨e,r,rfl,h1,g,d,f⟩:=hr;rw[List.findIdx?_cons,List.findIdx?_cons,b x e d,c f]
theorem KX(S:Sat K Z h w){m s:AV}{vs:Value}{h':AH}(e:lJ h m s x=some (.val v h'))(j:RV Z m vm)(n:RV Z s vs)(o:RV Z x vx):
 yE P K Z h w (Instr.entryStore t vm vs vx) h'∧v=iw:=by
 unfold lJ at e;split at e
 .rename_i id k st
  split at e
  .rename_i es ck d
   split at e
   .rename_i i r
    cases e;refine⟨?_,rfl⟩;obtain⟨p,hp,rfl⟩:=sH j;obtain rfl:=iK n;obtain⟨q,ob,f,u,y,C,g,b,rfl,hr⟩:=S.at d trivial;obtain rfl:p=q:=by rw[hp]at f;exact aN f
    obtain⟨z,g2⟩:=ak.oz (P:=P) (K:=K) g (by simp) rfl u y;unfold Instr.entryStore;refine yE.lC z g2 ?_;refine yE.aG (x:=st) (ak.pure _) ?_;have c:b.findIdx? (λe=>(e.born:Int)==st)=some i:=by
     have:=hr.findIdx (q:=λe=>(e.born:Int)==st) (q':=λe=>(e.born:Int)==st) (λa e h=>by rw[h]);rw[r]at this;have A:b.findIdx? (λe=>(e.born:Int)==st)=b.toList.findIdx? (λe=>(e.born:Int)==st):=by
      rcases b with⟨l⟩;simp
     rw[A,← this]
    simp only[c];refine kS S hp d trivial g (by simp) ⟨_,rfl,?_⟩ rfl;rw[Array.toList_modify];exact hr.modify i λa e _ _ h1 _ B=>⟨h1,o,B⟩
   .cases e
  .cases e
 .cases e
theorem VH(F:Fits P E)(S:Sat K Z h w){t ty:TypeId}{m k:AV}{n y:Value}{v:AV}{h':AH}(e:Ap E h t m k=some (.val v h'))(f:RV Z m n)(o:RV Z k y):
 fV P K Z h w (Builtin.delete_ #[t] ty #[n,y]) v h':=by
 unfold Ap at e;split at e
 .rename_i B el l
  obtain⟨b,e⟩:=fJ e;cases e;have f:n= .map none:=by unfold RV at f;exact f
  subst f;have a:=(sK (w:=w) F b o (es:=[]) (vs:=[]) (r:=none) rfl rfl).1;unfold Builtin.delete_;refine fV.aG (ak.underlying (lW F l).1) ?_;refine fV.aG (a _) ?_;exact λ_=>⟨Z,w,_,[],ak.pure _,Grow.refl _ _,S,lZ,kP.refl K w (by simp),rfl⟩
 .rename_i B el id l
  split at e
  .rename_i es ck g
   obtain⟨b,g⟩:=Lc g trivial;obtain⟨p,hp,rfl⟩:=sH f;obtain⟨q,ob,z,C,D,H,s,j,rfl,hr⟩:=S.at g trivial;obtain rfl:p=q:=by rw[hp]at z;exact aN z
   obtain⟨A,g2⟩:=ak.oz (P:=P) (K:=K) s (by simp) rfl C D;split at e
   .cases e
   .rename_i i I u
    cases e;obtain⟨a,x,d,c⟩:=sK (w:=w) F b o u hr;cases x with
    |none=>exact c.elim
    |some q'=>
     obtain⟨J,L⟩:=q';obtain⟨hi,_⟩:=c;simp only at hi;subst hi;unfold Builtin.delete_;refine fV.aG (ak.underlying (lW F l).1) ?_;refine fV.lC A g2 ?_;refine fV.aG (a _) ?_;refine fV.aG d ?_;refine yE.val (kS S hp g trivial s (by simp) ⟨_,rfl,?_⟩ rfl) (λι' G=>lZ) (λw=>ak.pure _);have:(j.eraseIdxIfInBounds i).toList=j.toList.eraseIdx i:=by simp
     rw[this];exact hr.erase i
   .rename_i u
    cases e;obtain⟨a,x,d,c⟩:=sK (w:=w) F b o u hr;cases x with
    |some q'=>exact c.elim
    |none=>
     unfold Builtin.delete_;refine fV.aG (ak.underlying (lW F l).1) ?_;refine fV.lC A g2 ?_;refine fV.aG (a _) ?_;refine fV.aG d ?_;exact yE.val (kS S hp g trivial s (by simp) ⟨_,rfl,hr⟩ rfl) (λι' G=>lZ) (λw=>ak.pure _)
  .cases e
 .cases e
theorem L8(z:Array Value)(n:Nat):(Builtin.zeroCells z (n+1)).toList=z.toList++(Builtin.zeroCells z n).toList:=by
 unfold Builtin.zeroCells;apply List.ext_getElem?;intro i;simp only[Array.toList_map,Array.toList_range,fP];by_cases h:i<z.size
 .rw[aW (by simpa using h),List.getElem?_range (by rw[Nat.succ_mul];omega)]
  simp only[kD,Nat.mod_eq_of_lt h,bI];rw[dI h,getElem!_pos z i h]
 .rw[bD (by simpa using h)]
  simp only[Array.length_toList,fP];by_cases a:i<(n+1)*z.size
  .rw[List.getElem?_range a,List.getElem?_range (by rw[Nat.succ_mul]at a;omega)]
   simp only[kD];rw[Nat.mod_eq_sub_mod (by omega)]
  .rw[mD (by simpa using a),mD (by simp;rw[Nat.succ_mul]at a;omega)]
theorem zQ{a:List AV}{z:Array Value}(b:dS Z a z.toList):∀n,dS Z (rep n a) (Builtin.zeroCells z n).toList
 |0=>by
  have:(Builtin.zeroCells z 0).toList=[]:=by unfold Builtin.zeroCells;simp
  rw[this];exact dG
 |n+1=>by
  rw[L8];exact b.append (zQ b n)
theorem YX(F:Fits P E)(S:Sat K Z h w){t ty:TypeId}{m:AV}{c:Value}{v:AV}{h':AH}(e:EC E h t m=some (.val v h'))(d:RV Z m c):
 fV P K Z h w (Builtin.clear_ #[t] ty #[c]) v h':=by
 unfold EC at e;split at e
 .rename_i A el id hd
  split at e
  .rename_i es ck f
   cases e;obtain⟨p,hp,rfl⟩:=sH d;obtain⟨q,ob,g,j,k,B,i,l,rfl,hr⟩:=S.at f trivial;obtain rfl:p=q:=by rw[hp]at g;exact aN g
   obtain⟨o,g2⟩:=ak.oz (P:=P) (K:=K) i (by simp) rfl j k;unfold Builtin.clear_;refine fV.aG (ak.underlying (lW F hd).1) ?_;refine fV.lC o g2 ?_;exact yE.val (kS S hp f trivial i (by simp) ⟨#[],rfl,rfl⟩ rfl) (λι' r=>lZ) (λw=>ak.pure _)
  .cases e
 .rename_i el id off n cp hd
  split at e
  .rename_i s u
   cases b:Nat.beq n 0 with
   |true=>rw[b]at e;cases e
   |false=>
    rw[b]at e;simp only[bH]at e;cases a:fE h id off (rep n s.zero)with
    |none=>rw[a]at e;cases e
    |some h1=>
     rw[a]at e;cases e;obtain⟨p,hp,cap,rfl,_⟩:=kE d;obtain⟨z,x,_,z2,_⟩:=nT (ι:=Z) (w:=w) F u;have y:n≠0:=λh=>by rw[h]at b;cases b
     unfold Builtin.clear_;refine fV.aG (ak.underlying (eu F hd)) ?_;obtain⟨m,rfl⟩:∃m,n=m+1:=⟨n - 1,by omega⟩;refine fV.aG x ?_;exact yE.val (wF S hp a (zQ z2 _)) (λι' r=>lZ) (λw=>ak.pure _)
  .cases e
 .cases e
end
end
section
variable{a v x:AV}{cap d:Nat}{o:AO}{ob:Obj}{t:TypeId}{vx:Value}
section
variable{P:Program}{K:Ctx}{Z:Nm}{h:AH}{w:World}{E:Env}
theorem xU(S:Sat K Z h w)(hr:RO K.P Z cap o ob){f:Nat->Sem Value}(g:Nat->Value)(i:∀b w,ak P (f b) w (g b) w [])
 (j:∀ι' b,ι' h.nx=some (b,cap)->Ext Z ι'->RV ι' a (g b)):fV P K Z h w (newObj ob>>=f) a (h.new o):=λd=>by
 have c:=FQ d;have e:Ext Z (upd Z h.nx (w.heap.size,cap)):=Am c;exact⟨upd Z h.nx (w.heap.size,cap),{ w with heap:=w.heap.push ob },g w.heap.size,[],ak.bind (e1:=[]) (e2:=[]) (ak.new _) (i _ _),by rw[AH.mZ];exact Grow.upd,S.Fh c (hr.mono e),j _ _ (pI _ _ _) e,kP.Fh _ K,AH.yM⟩
theorem Yo(F:Fits P E)(S:Sat K Z h w){h':AH}(e:yK E h t x=some (.val v h'))(d:RV Z x vx):fV P K Z h w (Instr.range t vx) v h':=by
 unfold yK at e;have ptr:∀{ι':Nm} {i b k:Nat},ι' i=some (b,k)->RV ι' (.ptr i 0) (.pointer (some ⟨b,0,none⟩)):=λhi=>xO hi;split at e
 .rename_i s c
  cases e;obtain rfl:=nG d;unfold Instr.range;refine fV.aG (ak.underlying (qg F c)) ?_;refine fV.aG (ak.pure _) ?_;exact xU S (cap:=0) (o:= .sit s 0) (ob:= .stringIter ⟨s.toArray⟩ 0) rfl (λb=> .pointer (some ⟨b,0,none⟩)) (λb w=>ak.pure _) (λι' b a _=>ptr a)
 .rename_i k el c
  cases e;unfold RV at d;subst d;unfold Instr.range;refine fV.aG (ak.underlying (lW F c).1) ?_;refine fV.aG (ak.pure _) ?_;exact xU S (cap:=0) (o:= .KE none 0 [] 0) (ob:= .mapIter none 0 #[] 0) ⟨none,λj hj=>(by cases hj),λ_=>rfl,rfl⟩ (λb=> .pointer (some ⟨b,0,none⟩)) (λb w=>ak.pure _) (λι' b a _=>ptr a)
 .rename_i k el id c
  split at e
  .rename_i es ck g
   cases e;obtain⟨p,hp,rfl⟩:=sH d;obtain⟨q,ob,f,l,m,u,a,n,rfl,hr⟩:=S.at g trivial;obtain rfl:p=q:=by rw[hp]at f;exact aN f
   obtain⟨r,g2⟩:=ak.oz (P:=P) (K:=K) a (by simp) rfl l m;unfold Instr.range;refine fV.aG (ak.underlying (lW F c).1) ?_;refine fV.lC r g2 ?_;refine fV.aG (ak.pure _) ?_;exact xU S (cap:=0) (o:= .KE (some id) ck [] ck) (ob:= .mapIter (some p.1) ck #[] ck) ⟨some p.1,λj hj=>(by cases hj;exact⟨p,hp,rfl⟩),λh=>(by cases h),rfl⟩ (λb=> .pointer (some ⟨b,0,none⟩)) (λb w=>ak.pure _) (λι' b a _=>ptr a)
  .cases e
 .cases e
def AOk(P:Program)(K:Ctx)(Z:Nm)(h:AH)(w:World)(s:Sem Value)(l:List (AV×AH)):Prop:=∃p∈l,fV P K Z h w s p.1 p.2
theorem fV.after{s:Sem Nat}{f:Nat->Sem Value}{k:Nat}{h':AH}(h1:ak P s w k { w with drawn:=d } [])(b:fV P K Z h { w with drawn:=d } (f k) a h'):fV P K Z h w (s>>=f) a h':=λc=>by
 obtain⟨ι',w',e,es,g,i,j,l,m,n⟩:=b c;exact⟨ι',w',e,es,ak.aG h1 g,i,j,l,by simpa using(kP.drawn K w d).trans m,n⟩
theorem fV.choose{q:Question}{f:Nat->Sem Value}{a:AV}{h':AH}(b:∀k d,(∃t,k=q.cut t∨k=0∧q.forced=true)->fV P K Z h { w with drawn:=d } (f k) a h'):fV P K Z h w (Go.choose q>>=f) a h':=by
 obtain⟨k,w',h1,⟨d,rfl⟩,c⟩:=ak.choose (P:=P) (w:=w) q;exact fV.after h1 (b k d c)
theorem yG.all{q:AE->Bool}{q':MapEntry->Bool}(b:∀a e,e.born=a.born->q a=q' e){l:List AE}{es:List MapEntry}(hr:yG Z l es):l.all q=es.all q':=by
 induction l generalizing es with
 |nil=>
  have:es=[]:=hr;subst this;rfl
 |cons x l c=>
  obtain⟨e,r,rfl,h1,g,d,f⟩:=hr;rw[List.all_cons,List.all_cons,b x e d,c f]
theorem yG.filter{q:AE->Bool}{q':MapEntry->Bool}(f:∀a e,e.born=a.born->q a=q' e){l:List AE}{es:List MapEntry}(hr:yG Z l es):yG Z (l.filter q) (es.filter q'):=by
 induction l generalizing es with
 |nil=>
  have:es=[]:=hr;subst this;exact rfl
 |cons x l b=>
  obtain⟨e,r,rfl,h1,g,c,d⟩:=hr;rw[uw,uw,f x e c];split
  .exact⟨e,_,rfl,h1,g,c,b d⟩
  .exact b d
theorem decode_ascii{s:List UInt8}{pos:Nat}{b:UInt8}(a:s[pos]? =some b)(c:b.toNat<128):Utf8.decode ⟨s.toArray⟩ pos=(b.toNat,1):=by
 have hp:pos<s.length:=by rw[aA]at a;exact a.1
 have h0:(⟨s.toArray⟩:ByteArray).get! (pos+0)=b:=by
  have:(⟨s.toArray⟩:ByteArray).get! (pos+0)=s.toArray[pos]! :=rfl;rw[this,Array.getElem!_eq_getD,bg,List.getElem?_toArray,a];rfl
 unfold Utf8.decode;simp only[h0];rw[aC (by omega)]
def XOk(P:Program)(K:Ctx)(Z:Nm)(h:AH)(w:World)(s:Sem Value):OR->Prop
 | .val v h'=>fV P K Z h w s v h'
 | .alts l=>AOk P K Z h w s l
 |_=>False
theorem aaq(S:Sat K Z h w){it:AV}{vi:Value}{isS:Bool}{ty:TypeId}{r:OR}(e:IK h it isS=some r)(hi:RV Z it vi):XOk P K Z h w (Instr.next vi isS ty) r:=by
 unfold IK at e;split at e
 .rename_i id
  obtain⟨p,hp,rfl⟩:=jF hi;split at e
  .rename_i s pos C
   obtain⟨q,ob,z,J,L,b3,D,V⟩:=S.at C trivial;obtain rfl:p=q:=by rw[hp]at z;exact aN z
   obtain rfl:ob= .stringIter ⟨s.toArray⟩ pos:=V;obtain⟨F,g2⟩:=ak.oz (P:=P) (K:=K) D (by simp) rfl J L;split at e
   .rename_i hn
    cases e;show fV P K Z h w _ _ _;unfold Instr.next
    refine fV.lC F g2 ?_;have:¬pos<(⟨s.toArray⟩:ByteArray).size:=by rw[size_mk];rw[mQ]at hn;omega
    simp only[this,if_false];exact λ_=>⟨Z,w,_,[],ak.pure _,Grow.refl _ _,S,vM (cO nH dG),kP.refl K w (by simp),rfl⟩
   .rename_i b G
    obtain⟨M,e⟩:=fJ e;rw[jW]at M;subst e;show fV P K Z h w _ _ _;unfold Instr.next
    refine fV.lC F g2 ?_;have W:pos<(⟨s.toArray⟩:ByteArray).size:=by rw[size_mk];rw[aA]at G;exact G.1
    simp only[W,if_true,decode_ascii G M];exact yE.val (kS S hp C trivial D (by simp) rfl rfl) (λι' X=>vM (cO nH (cO jU (cO jU dG)))) (λw=>ak.pure _)
  .rename_i c seen st C
   cases e;obtain⟨q,ob,z,J,L,b3,D,b,k1,k2,rfl⟩:=S.at C trivial;obtain rfl:p=q:=by rw[hp]at z;exact aN z
   obtain rfl:=k2 rfl;obtain⟨F,g2⟩:=ak.oz (P:=P) (K:=K) D (by simp) rfl J L;show fV P K Z h w _ _ _;unfold Instr.next
   refine fV.lC F g2 ?_;exact λ_=>⟨Z,w,_,[],ak.pure _,Grow.refl _ _,S,vM (cO nH dG),kP.refl K w (by simp),rfl⟩
  .rename_i m c seen i C
   obtain⟨q,ob,z,J,L,b3,D,b,k1,k2,rfl⟩:=S.at C trivial;obtain rfl:p=q:=by rw[hp]at z;exact aN z
   obtain⟨Y,N,rfl⟩:=k1 m rfl;obtain⟨F,g2⟩:=ak.oz (P:=P) (K:=K) D (by simp) rfl J L;unfold Jw at e;split at e
   .rename_i es ck hm
    obtain⟨qm,obm,O,c1,c2,c3,hbm,n,rfl,hr⟩:=S.at hm trivial;obtain rfl:Y=qm:=by rw[N]at O;exact aN O
    obtain⟨f1,f2⟩:=ak.oz (P:=P) (K:=K) hbm (by simp) rfl c1 c2;obtain⟨e1,e⟩:=dO e;obtain⟨e2,e⟩:=jf e;have o:(!seen.toArray.isEmpty&& !n.isEmpty&&n.all (λx=>decide (x.born≥i)))=false:=by
     rw[← e1];have a1:seen.toArray.isEmpty=seen.isEmpty:=by cases seen<;>simp
     have a2:n.isEmpty=es.isEmpty:=by
      have:=hr.length;rw[qY,Array.isEmpty_iff,List.isEmpty_iff];constructor
      .intro h;rw[h]at this;simpa using this
      .intro h;rw[h]at this;exact Array.eq_empty_of_size_eq_zero (by simpa using this.symm)
     have a3:n.all (λx=>decide (x.born≥i))=es.all (λe=>Nat.ble i e.born):=by
      rw[hr.all (q':=λx=>decide (x.born≥i)) (λa e H=>by rw[H,qY,Nat.ble_eq,jW])];simp
     rw[a1,a2,a3]
    have f:yG Z (es.filter λe=> !seen.contains e.born) (n.filter λe=> !seen.toArray.contains e.born).toList:=by
     rw[Array.toList_filter];exact hr.filter λa e H=>by rw[H];simp
    obtain⟨left,g⟩:∃left,left=n.filter λe=> !seen.toArray.contains e.born:=⟨_,rfl⟩;rw[← g]at f;have u:left.filter (λx=>decide (x.born<c))=left:=by
     apply dH.1;rw[Array.toList_filter];apply List.filter_eq_self.2;have:=f.all (q:=λe=>Nat.blt e.born c) (q':=λx=>decide (x.born<c)) (λa e H=>by rw[H,qY,dB,jW]);rw[e2]at this;exact λa ha=>fM.1 this.symm a ha
    have v:left.filter (λx=>decide (x.born≥c))=#[]:=by
     apply dH.1;rw[Array.toList_filter];apply List.filter_eq_nil_iff.2;have:=f.all (q:=λe=>Nat.blt e.born c) (q':=λx=>decide (x.born<c)) (λa e H=>by rw[H,qY,dB,jW]);rw[e2]at this;intro a ha hx;have h1:=fM.1 this.symm a ha;simp only[jW]at h1 hx;omega
    split at e
    .rename_i Q
     cases e;rw[Q]at f;have hl0:left=#[]:=by
      apply dH.1;exact f
     show fV P K Z h w _ _ _;unfold Instr.next
     refine fV.lC F g2 ?_;refine fV.lC f1 f2 ?_;rw[hl0]at g u v;simp only[o,gJ,if_false,← g,u,v];refine fV.choose λk d y=>?_;have hk0:k=0:=by
      obtain⟨t,y|y⟩:=y
      .rw[y];simp[Question.cut,Nat.mod_one]
      .exact y.1
     subst hk0;have hc:((if(#[]:Array MapEntry).isEmpty=true then #[none]else #[])++Array.map some ((#[]:Array MapEntry)++#[]))[0]? =some none:=by simp
     simp only[hc];exact λ_=>⟨Z,_,_,[],ak.pure _,Grow.refl _ _,S.drawn d,vM (cO nH dG),kP.refl K _ (by simp),rfl⟩
    .rename_i l hne
     cases e;show AOk P K Z h w _ _;have A:=f.length;have B:left.size≠0:=by
      intro h0;have:(es.filter λe=> !seen.contains e.born).length=0:=by rw[A];simpa using h0
      exact hne (bM.1 this)
     have R:left.isEmpty=false:=by
      rw[Bool.eq_false_iff];intro h;rw[Array.isEmpty_iff]at h;rw[h]at B;exact B rfl
     obtain⟨k,w',hch,⟨d,rfl⟩,y⟩:=ak.choose (P:=P) (w:=w) (.mapNext (left.map some).size);have T:k<left.size:=by
      obtain⟨t,y|y⟩:=y
      .rw[y]
       simp only[Question.cut,Array.size_map];exact Nat.mod_lt _ (by omega)
      .rw[y.1];omega
     have U:k<(es.filter λe=> !seen.contains e.born).length:=by rw[A];simpa using T
     obtain⟨en,hen,r1,r2,r3⟩:=f.get (aI U);refine⟨_,gU.2 ⟨_,List.getElem_mem U,rfl⟩,?_⟩;unfold Instr.next
     refine fV.lC F g2 ?_;refine fV.lC f1 f2 ?_;simp only[o,gJ,if_false,← g,u,v,R,gK,Array.append_empty];refine fV.after hch ?_;have I:(left.map some)[k]? =some (some en):=by
      rw[jy,← bI,hen];rfl
     simp only[I];have S':=S.drawn d;refine yE.val (kS S' hp C trivial D (by simp) ⟨some Y.1,λj hj=>(by cases hj;exact⟨Y,N,rfl⟩),λh=>(by cases h),?_⟩ rfl) (λι' X=>vM (cO nH (cO (r1.mono X) (cO (r2.mono X) dG)))) (λw=>ak.pure _);rw[r3];simp
   .cases e
  .cases e
 .cases e
end
end
end Go.Ev
