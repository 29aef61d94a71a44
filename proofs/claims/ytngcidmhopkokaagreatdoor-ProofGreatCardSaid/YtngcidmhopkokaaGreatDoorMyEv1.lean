/- A part of the proof that ProofGreat returns true. -/
import GoSem.Claims
import Derived.Conc.Listed
import Derived.Orders
import Derived.Laws.Strings
import Derived.Laws.Sem
import Derived.IntWalk
set_option linter.all false
namespace Go.Ev
set_option maxRecDepth 100000
def ah := @Nat.le_refl
def ak := @Nat.eq_of_beq_eq_true
def au := @if_neg
def av := @Bool.and_eq_true
def ay := @List.mem_cons
def aA := @decide_eq_true
def aB := @List.not_mem_nil
def aD := @decide_eq_false
def aF := @Nat.le_of_ble_eq_true
def aH := @if_pos
def aI := @Option.some.inj
def aJ := @List.getElem?_eq_some_iff
def aK := @List.getElem?_eq_getElem
def aN := @Option.map_eq_some_iff
def aP := @absurd
def aQ := @Nat.le_trans
def aS := @Array.getElem?_eq_some_iff
def aU := @List.getElem?_append_left
def aW := @Nat.ble_eq_true_of_le
def aY := @List.getElem?_append_right
def aZ := @Nat.lt_or_ge
def bf := @Array.getD_eq_getD_getElem?
def bg := @List.mem_cons_of_mem
def bn := @or_false
def bq := @Array.getElem?_toList
def bA := @cond_true
def bB := @List.length_eq_zero_iff
def bC := @cond_false
def bD := @List.append_nil
def bE := @List.mem_of_getElem?
def bF := @List.mem_append
def bH := @List.length_map
def bI := @Array.getElem?_setIfInBounds_ne
def bK := @List.mem_cons_self
def bL := @List.drop_eq_getElem_cons
def bM := @Option.some.injEq
def bN := @Int.toNat_natCast
def bP := @List.mem_map
def bR := @List.mem_singleton
def bT := @Nat.zero_le
def bU := @Array.toList_inj
def bW := @Nat.mul_one
def bX := @Array.getElem?_eq_getElem
def bY := @List.length_pos_iff
def bZ := @of_decide_eq_true
def cB := @Nat.lt_succ_self
def cO := @Nat.blt_eq
def cZ := @List.mem_range
def dz := @Array.toList_append
def dG := @List.pairwise_cons
def dK := @Nat.add_sub_cancel_left
def dO := @List.cons.injEq
def dZ := @Nat.le_add_right
def d9 := @List.all_eq_true
def eu := @List.getElem?_map
def eD := @Bool.or_eq_true
def fq := @List.take_append_drop
def fB := @List.mem_filter
def fC := @List.append_assoc
def fF := @List.length_append
def fG := @Array.empty_append
def fJ := @List.nodup_cons
def fK := @beq_iff_eq
def fM := @List.length_take
def fO := @List.getElem?_cons_succ
def fP := @List.drop_zero
def fZ := @congrArg
def gF := @Nat.zero_add
def gG := @Bool.false_eq_true
def gI := @List.length_cons
def gJ := @List.mem_append_right
def gK := @List.getElem?_eq_none
def gM := @decide_eq_true_eq
def gN := @List.length_range
def gQ := @decide_eq_false_iff_not
def gZ := @Nat.lt_of_lt_of_le
def ig := @List.getElem?_take
def iq := @Nat.not_lt_zero
def iC := @Nat.le_of_lt
def iD := @List.drop_eq_nil_of_le
def iE := @Int.le_of_eq
def iH := @Prod.mk.inj
def iJ := @List.set_append_right
def iR := @Array.getElem?_map
def jk := @List.take_of_length_le
def jl := @Int.tmod_eq_emod_of_nonneg
def jm := @Bool.or_true
def jy := @Nat.zero_lt_one
def jE := @List.getElem?_drop
def jH := @Array.getElem?_setIfInBounds_self_of_lt
def jJ := @Nat.zero_mul
def jN := @List.mem_iff_getElem
def jO := @List.mem_append_left
def jX := @Option.map_some
def jY := @List.map_append
def jZ := @List.foldl_cons
def j6 := @and_true
def kr := @Array.getElem?_push
def kC := @Int.le_of_lt
def kF := @Nat.add_mul
def kJ := @List.filter_cons
def kT := @Nat.eq_zero_or_pos
def kY := @List.getElem?_eq_none_iff
def lg := @List.length_set
def lJ := @List.pairwise_append
def lS := @Nat.lt_irrefl
def lW := @List.map_cons
def mI := @List.pairwise_singleton
def mJ := @List.length_drop
def mW := @Nat.mul_comm
def mX := @Nat.eq_or_lt_of_le
def mY := @Array.foldl_toList
def mZ := @Array.ext_getElem?
def nA := @List.nil_append
def nC := @Bool.eq_iff_iff
def nD := @Array.size_push
def nO := @List.flatMap_cons
def nP := @Int.lt_trichotomy
def oM := @Option.getD_some
def oN := @Nat.sub_self
def oO := @Nat.le_of_not_lt
def oP := @List.range'_succ
def oQ := @List.mem_flatMap
def oU := @List.cons_append
def oV := @Array.mem_append
def pK := @Prod.mk.injEq
def pO := @Nat.add_assoc
inductive AV where
 |any
 |one
 |bool (b:Bool)
 |int (k:IntKind) (n:Int)
 |str (s:List UInt8)
 |nQ
 |ptr (id off:Nat)
 |aM
 |emp
 |sl (id off len:Nat) (cap:Option Nat)
 |aO (a:Option (Nat×Nat)) (n c:Nat)
 |nT
 |map (id:Nat)
 |sD
 |fn (f:FuncId) (first cap:List AV)
 |yield (id:Nat)
 |kH
 |iface (t:TypeId) (v:AV)
 |agg (l:List AV)
 |bV (l:List AV)
 deriving Inhabited
inductive Tr(α:Type) where
 |e
 |n (l:Tr α) (v:Option α) (r:Tr α)
 deriving Inhabited
noncomputable def Tr.get{α:Type}(t:Tr α):Nat->Option α:=
 @Tr.rec α (λ_=>Nat->Option α) (λ_=>none)
  (λ_ v _ a b i=>@Bool.rec (λ_=>Option α) (@Bool.rec (λ_=>Option α) (b (Nat.sub (Nat.div i 2) 1)) (a (Nat.div i 2)) (Nat.beq (Nat.mod i 2) 1)) v (Nat.beq i 0)) t
noncomputable def Tr.Aq{α:Type}(x:α)(f:Nat):Tr α->Nat->Tr α:=
 @Nat.rec (λ_=>Tr α->Nat->Tr α) (λ_ _=> .e) (λ_ a t i=>@Tr.rec α (λ_=>Tr α)
  (@Bool.rec (λ_=>Tr α) (@Bool.rec (λ_=>Tr α) (.n .e none (a .e (Nat.sub (Nat.div i 2) 1))) (.n (a .e (Nat.div i 2)) none .e) (Nat.beq (Nat.mod i 2) 1)) (.n .e (some x) .e) (Nat.beq i 0))
  (λl v r _ _=>@Bool.rec (λ_=>Tr α) (@Bool.rec (λ_=>Tr α) (.n l v (a r (Nat.sub (Nat.div i 2) 1))) (.n (a l (Nat.div i 2)) v r) (Nat.beq (Nat.mod i 2) 1)) (.n l (some x) r) (Nat.beq i 0)) t) f
noncomputable def Tr.set{α:Type}(t:Tr α)(i:Nat)(x:α):Tr α:=Tr.Aq x (Nat.succ (Nat.log2 (Nat.succ i))) t i
structure AD where
 f:AV
 args:List AV
 deriving Inhabited
structure AE where
 key:AV
 val:AV
 born:Nat
 deriving Inhabited
inductive AO where
 |dead
 |cells (vs:List AV) (elem:TypeId) (grow:Bool) (fz:Bool)
 |map (es:List AE) (clock:Nat)
 |GR (m:Option Nat) (since:Nat) (seen:List Nat) (stepped:Nat)
 |sit (s:List UInt8) (pos:Nat)
 |loop (st:LoopState) (pending:Option Code) (fn:FuncId) (nt:Nat) (tm:Tr AV) (params:List Tmp) (assign body:Code) (defers:Nat)
 |rz (none_:Bool)
 deriving Inhabited
structure AH where
 tr:Tr AO
 nx:Nat
 df:Nat
 deriving Inhabited
noncomputable def AH.obj(h:AH)(id:Nat):AO:=match h.tr.get id with |some o=>o|none=> .dead
noncomputable def AH.put(h:AH)(id:Nat)(o:AO):AH:=match h with |⟨tr,nx,df⟩=>⟨tr.set id o,nx,df⟩
noncomputable def AH.new(h:AH)(o:AO):AH:=match h with |⟨tr,nx,df⟩=>⟨tr.set nx o,Nat.succ nx,df⟩
inductive TD where
 |bool|int (k:IntKind)|str|ptr (e:TypeId)|slice (e:TypeId)|map (k e:TypeId)|func|iface (empty:Bool)
 |struct (fs:List (Nat×Nat×TypeId))
 |array (n:Nat) (e:TypeId)
 |Km|tuple
 deriving Inhabited
structure TI where
 d:TD
 size:Nat
 bytes:Nat
 zero:List AV
 deriving Inhabited
def TI.isAgg(t:TI):Bool:=match t.d with | .struct _| .array _ _=>true|_=>false
inductive EX where
 |uJ|xU|race|Un|en|Fg (k:IntKind)|Fb (k:IntKind)|BL (k:IntKind)|BH|wY|stop
 deriving Inhabited,DecidableEq
structure FI where
 body:Option Code
 ntmps:Nat
 results:List ResultVar
 ext:EX
 deriving Inhabited
structure Env where
 tt:Tr TI
 ft:Tr FI
 M7:List (TypeId×String×FuncId)
 lies:List (TypeId×TypeId)
 flat:List (TypeId×List Nat)
 aaU:List FuncId
 small:List FuncId
 inl:List FuncId
 old:Nat->Nat->Option AV:=λ_ _=>none
 peek:Bool:=false
noncomputable def Env.blind(E:Env):Env:={ E with old:=λ_ _=>none,peek:=false }
def OLD:Nat:=1152921504606846976
noncomputable def Env.d(E:Env)(t:TypeId):Option TD:=(E.tt.get t).map (·.d)
inductive AI where
 |code (c:Code)
 |inBlock (id:Nat)
 |inLoop (body:Code)
 |inScope (body:Code)
 |inRegion (ops:Array Oper) (todo:List Oper)
 |inRangeFunc (id:Nat)
 |endRangeFunc (id:Nat)
 |beginRound
 |rT (ops:Array Oper) (n:Nat)
 deriving Inhabited
structure AX where
 fn:FuncId
 deferred:Bool
 round:Option Nat
 nt:Nat
 deriving Inhabited
structure AF where
 x:AX
 tm:Tr AV
 todo:List AI
 ds:List AD
 ret:Bool
 deriving Inhabited
def gH:AV:= .bV []
def sM:Value->AV
 | .bool b=> .bool b
 | .int k n=> .int k n
 | .string s=> .str s.data.toList
 | .pointer none=> .nQ
 | .slice none 0 0=> .aM
 | .map none=> .nT
 | .nilFunc=> .sD
 | .nilIface=> .kH
 | .func (.func f) a b=>cond (a.isEmpty&&b.isEmpty) (.fn f [] []) .any
 | .tuple a=>cond a.isEmpty (.bV []) .any
 |_=> .any
def acn:Value->AV
 | .agg cs=> .agg (cs.toList.map sM)
 |v=>sM v
noncomputable def ev(tm:Tr AV)(x:Operand):AV:=
 @Operand.rec (λ_=>Tr AV->AV) (λt tm=>match tm.get t with |some v=>v|none=> .any) (λv _=>acn v) (λ_ _=> .any) (λg _=> .fn g [] []) x tm
noncomputable def evs(tm:Tr AV):List Operand->List AV
 |[]=>[]
 |x::l=>ev tm x::evs tm l
noncomputable def OU(tm:Tr AV):List (Nat×Operand)->List (Nat×AV)
 |[]=>[]
 |p::l=>(p.1,ev tm p.2)::OU tm l
noncomputable def Lr(tm:Tr AV):Option Operand->Option AV
 |none=>none
 |some x=>some (ev tm x)
def AV.cells:AV->List AV
 | .agg l=>l
 |v=>[v]
def setAt(l:List AV)(off:Nat):List AV->List AV
 |[]=>l
 |v::vs=>setAt (l.set off v) (off+1) vs
def rep(n:Nat)(z:List AV):List AV:=match n with |0=>[]|n+1=>z++rep n z
def AV.isAny:AV->Bool| .any=>true|_=>false
def xg(k a:IntKind):Bool:=Nat.beq k.ctorIdx a.ctorIdx
def OV:AV->AV->Option Bool
 | .bool a,.bool b=>some (a==b)
 | .int k a,.int c b=>cond (xg k c) (some (a==b)) none
 | .str a,.str b=>some (a==b)
 |_,_=>none
def AP:List AV->List AV->Option Bool
 |[],[]=>some true
 |a::l,b::m=>match OV a b with
  |none=>none
  |some false=>match AP l m with |none=>none|some _=>some false
  |some true=>AP l m
 |_,_=>none
def eqK:AV->AV->Option Bool
 | .agg l,.agg m=>AP l m
 |a,b=>OV a b
def yx(k:AV):List AE->Nat->Option (Option (Nat×AV))
 |[],_=>some none
 |e::es,i=>match eqK k e.key with
  |none=>none
  |some true=>some (some (i,e.val))
  |some false=>yx k es (i+1)
inductive OR where
 |val (v:AV) (h:AH)
 |call (g:FuncId) (args:List AV)
 |yield (id:Nat) (args:List AV)
 |rz (d:AD)
 |alts (l:List (AV×AH))
 |stop
def int64(n:Int):AV:= .int .i64 n
def takeN(l:List AV)(off n:Nat):Option (List AV):=
 let r:=(l.drop off).take n
 cond (Nat.beq r.length n) (some r) none
noncomputable def l9(E:Env):AV->AV
 | .aO none _ _=> .aM
 | .aO (some p) n c=>cond E.peek (cond (Nat.beq n 0) .emp (.sl (OLD+p.1) p.2 n (some c))) .any
 |v=>v
def unB:AV->AV
 | .aO none _ _=> .aM
 |v=>v
def iI(old:Nat->Nat->Option AV)(b:Nat):Nat->Nat->Option (List AV)
 |_,0=>some []
 |off,n+1=>match old b off,iI old b (off+1) n with
  |some v,some r=>some (v::r)
  |_,_=>none
noncomputable def jw(E:Env)(h:AH)(id off n:Nat):Option (List AV):=
 cond (Nat.ble OLD id) (iI E.old (id - OLD) off n) (match h.obj id with
 | .cells vs _ _ _=>takeN vs off n
 |_=>none)
noncomputable def loadT(E:Env)(h:AH)(t:TypeId)(id off:Nat):Option AV:=
 match E.tt.get t with
 |none=>none
 |some ti=>cond ti.isAgg ((jw E h id off ti.size).map .agg)
  (cond (Nat.ble OLD id) (E.old (id - OLD) off) (match h.obj id with | .cells vs _ _ _=>vs[off]? |_=>none))
def lu:List AV->Bool
 |[]=>true
 |v::l=>(match v with | .any| .agg _| .bV _=>false|_=>true)&&lu l
def Vv:Value->Bool
 | .agg _| .tuple _=>false
 |_=>true
noncomputable def dD(h:AH)(id off:Nat)(vs:List AV):Option AH:=
 match h.obj id with
 | .cells l e g false=>cond (Nat.ble (off+vs.length) l.length&&lu vs) (some (h.put id (.cells (setAt l off vs) e g false))) none
 |_=>none
def sJ:List Nat->List AV->Bool
 |[],[]=>true
 |k::ks,a::l=>(match a with | .bool _=>Nat.beq k 0| .int _ _=>Nat.beq k 1| .str _=>Nat.beq k 2|_=>false)&&sJ ks l
 |_,_=>false
def uM(E:Env)(t:TypeId)(l:List AV):Bool:=E.flat.any λp=>Nat.beq p.1 t&&sJ p.2 l
noncomputable def He(E:Env)(t:TypeId)(k:AV):Bool:=
 match E.d t with
 |some .bool=>(match k with | .bool _=>true|_=>false)
 |some (.int _)=>(match k with | .int _ _=>true|_=>false)
 |some .str=>(match k with | .str _=>true|_=>false)
 |some (.struct _)=>(match k with | .agg l=>uM E t l|_=>false)
 |some (.array _ _)=>(match k with | .agg l=>uM E t l|_=>false)
 |_=>false
noncomputable def JI(E:Env)(t:TypeId)(x y:AV):Option Bool:=
 match E.d t with
 |some .bool=>match x,y with
  | .bool a,.bool b=>some (a==b)
  |_,_=>none
 |some (.ptr e)=>match x,y with
  | .nQ,.nQ=>some true
  | .nQ,.ptr _ _| .ptr _ _,.nQ=>some false
  | .ptr i a,.ptr j b=>cond (Nat.beq i j&&(match E.tt.get e with |some ti=> !Nat.beq ti.size 0|none=>false)) (some (Nat.beq a b)) none
  |_,_=>none
 |some (.slice _)=>match x,y with
  | .aM,.aM=>some true
  | .aM,.sl _ _ _ _| .sl _ _ _ _,.aM=>some false
  | .aM,.aO (some _) _ _| .aO (some _) _ _,.aM=>some false
  |_,_=>none
 |some (.map _ _)=>match x,y with
  | .nT,.nT=>some true
  | .nT,.map _| .map _,.nT=>some false
  |_,_=>none
 |some .func=>match x,y with
  | .sD,.sD=>some true
  | .sD,.fn _ _ _| .fn _ _ _,.sD=>some false
  |_,_=>none
 |some (.iface emp)=>match x,y with
  | .kH,.iface _ _| .iface _ _,.kH=>some false
  |_,_=>none
 |some (.struct _)=>match x,y with
  | .agg a,.agg b=>cond (uM E t a) (AP a b) none
  |_,_=>none
 |some (.array _ _)=>match x,y with
  | .agg a,.agg b=>cond (uM E t a) (AP a b) none
  |_,_=>none
 |_=>none
def Nz(op:BinOp)(k:IntKind)(a b:Int):Option AV:=
 (match op with
 | .add=>λk a b=>some (.int k (k.wrap (a+b)))
 | .sub=>λk a b=>some (.int k (k.wrap (a - b)))
 | .mul=>λk a b=>some (.int k (k.wrap (a*b)))
 | .quo=>λk a b=>cond (b==0) none (some (.int k (k.wrap (a.tdiv b))))
 | .rem=>λk a b=>cond (b==0) none (some (.int k (a.tmod b)))
 | .and=>λk a b=>some (.int k (k.wrap (BitVec.ofInt k.bits a &&& BitVec.ofInt k.bits b).toNat))
 | .or=>λk a b=>some (.int k (k.wrap (BitVec.ofInt k.bits a ||| BitVec.ofInt k.bits b).toNat))
 | .xor=>λk a b=>some (.int k (k.wrap (BitVec.ofInt k.bits a ^^^ BitVec.ofInt k.bits b).toNat))
 | .andNot=>λk a b=>some (.int k (k.wrap (BitVec.ofInt k.bits a &&& ~~~BitVec.ofInt k.bits b).toNat))
 | .lss=>λ_ a b=>some (.bool (decide (a<b)))
 | .leq=>λ_ a b=>some (.bool (decide (a<=b)))
 | .gtr=>λ_ a b=>some (.bool (decide (a>b)))
 | .geq=>λ_ a b=>some (.bool (decide (a≥b)))
 | .eql=>λ_ a b=>some (.bool (a==b))
 | .neq=>λ_ a b=>some (.bool (a !=b))
 |_=>λ_ _ _=>none:IntKind->Int->Int->Option AV) k a b
def K9(op:BinOp)(k:IntKind)(a:Int)(c:IntKind)(b:Int):Option AV:=
 (match op with
 | .shl=>λk a _ b=>cond (decide (b<0)) none (some (.int k (k.wrap (a*2 ^ (min b.toNat k.bits)))))
 | .shr=>λk a _ b=>cond (decide (b<0)) none (some (.int k (a.fdiv (2 ^ (min b.toNat k.bits)))))
 |op=>λk a c b=>cond (xg k c) (Nz op k a b) none:IntKind->Int->IntKind->Int->Option AV) k a c b
def O5(op:BinOp)(a b:List UInt8):Option AV:=
 match op with
 | .add=>cond (decide (a.length+b.length<4611686018427387904)) (some (.str (a++b))) none
 | .eql=>some (.bool (a==b))
 | .neq=>some (.bool (!(a==b)))
 | .lss=>some (.bool (Op.bytesLess a b))
 | .leq=>some (.bool (Op.bytesLess a b||a==b))
 | .gtr=>some (.bool (!(Op.bytesLess a b||a==b)))
 | .geq=>some (.bool (!(Op.bytesLess a b)))
 |_=>none
def asInt:AV->Option (IntKind×Int)| .int k n=>some (k,n)|_=>none
def JV:AV->Option (List UInt8)| .str s=>some s|_=>none
noncomputable def aaz(E:Env)(op:BinOp)(t:TypeId)(x y:AV):Option AV:=
 match op with
 | .eql=>(JI E t x y).map .bool
 | .neq=>(JI E t x y).map λb=> .bool (!b)
 |_=>none
noncomputable def Oc(E:Env)(op:BinOp)(t:TypeId)(x y:AV):Option AV:=
 match asInt x with
 |some (k,a)=>(match asInt y with
  |some (c,b)=>K9 op k a c b
  |none=>none)
 |none=>match JV x with
  |some a=>(match JV y with
   |some b=>O5 op a b
   |none=>none)
  |none=>aaz E op t x y
def TL:Operand->Bool| .const .nilIface=>true|_=>false
noncomputable def Xw(E:Env)(op:BinOp)(t:TypeId)(x y:Operand)(a b:AV):Option AV:=
 cond (TL x||TL y) (match a with
  | .kH=>(match b with
    | .kH=>(match E.d t with
      |some (.iface _)=>(match op with | .eql=>some (.bool true)| .neq=>some (.bool false)|_=>none)
      |_=>none)
    |_=>Oc E op t a b)
  |_=>Oc E op t a b) (Oc E op t a b)
def unA(op:UnOp)(x:AV):Option AV:=
 match op,x with
 | .not,.bool b=>some (.bool (!b))
 | .neg,.int k n=>some (.int k (k.wrap (0 - n)))
 | .xor,.int k n=>some (.int k (k.wrap (BitVec.ofInt k.bits (cond k.signed (-1) k.max) ^^^ BitVec.ofInt k.bits n).toNat))
 |_,_=>none
def bytesOf(s:List UInt8):List AV:=s.map λb=> .int .u8 b.toNat
def strOf:List AV->Option (List UInt8)
 |[]=>some []
 | .int .u8 n::l=>match strOf l with |some r=>some (UInt8.ofNat n.toNat::r)|none=>none
 |_=>none
noncomputable def E8(E:Env)(s d:TypeId)(x:AV)(h:AH):Option OR:=
 match E.d s,E.d d,x with
 |some (.ptr e),some .Km,.ptr id off=>
  match h.obj id,E.tt.get e with
  | .cells vs _ _ _,some ti=>cond (!Nat.beq ti.size 0&&Nat.blt off vs.length) (some (.val (.ptr id off) h)) none
  |_,_=>none
 |some .Km,some (.ptr u),.ptr id 0=>
  match h.obj id,E.tt.get u with
  | .cells vs el false _,some ti=>(match E.tt.get el with
    |some b=>cond (!Nat.beq ti.size 0&& !Nat.beq b.size 0&&Nat.beq vs.length b.size&&E.lies.any (λp=>Nat.beq p.1 el&&Nat.beq p.2 u)) (some (.val (.ptr id 0) h)) none
    |none=>none)
  |_,_=>none
 |some (.slice e),some .str,.aM=>(match E.d e with
  |some (.int .u8)=>some (.val (.str []) h)
  |_=>none)
 |some (.slice e),some .str,.sl id off len _=>(match E.d e with
  |some (.int .u8)=>(match jw E h id off len with
   |some vs=>(strOf vs).map λr=> .val (.str r) h
   |none=>none)
  |_=>none)
 |some .str,some (.slice e),.str a=>
  match E.tt.get e with
  |some ti=>(match ti.d with
   | .int .u8=>cond (Nat.beq ti.size 1) (some (.val (.sl h.nx 0 a.length none) (h.new (.cells (bytesOf a) e true false)))) none
   |_=>none)
  |none=>none
 |_,_,_=>none
noncomputable def O9(E:Env)(h:AH)(size:Nat):AV->Option (Nat×List AV)
 | .aM=>some (0,[])
 | .emp=>some (0,[])
 | .sl id off len _=>(jw E h id off (len*size)).map λc=>(len,c)
 | .str s=>cond (Nat.beq size 1) (some (s.length,bytesOf s)) none
 |_=>none
noncomputable def nM(E:Env)(h:AH)(ts tx:TypeId)(s x:AV):Option (AV×AH):=
 match E.tt.get ts,E.tt.get tx with
 |some { d:= .slice e,.. },some f=>
  match E.tt.get e with
  |none=>none
  |some a=>
   cond (match f.d with | .int _=>true|_=>Nat.beq a.bytes 0||Nat.beq a.size 0||Nat.blt 4096 a.bytes) none <|
   match O9 E h a.size x with
   |none=>none
   |some (n,c)=>
    cond (Nat.blt 268435456 n) none <|
    match s with
    | .aM=>cond (Nat.beq n 0) (some (.aM,h)) (some (.sl h.nx 0 n none,h.new (.cells c e true false)))
    | .sl id off len (some cap)=>
      cond (Nat.ble (len+n) cap)
       ((dD h id (off+len*a.size) c).map λh'=>(.sl id off (len+n) (some cap),h'))
       (cond (Nat.blt 268435456 (len+cap)) none <| (jw E h id off (len*a.size)).map λold=>(.sl h.nx 0 (len+n) none,h.new (.cells (old++c) e true false)))
    | .sl id 0 len none=>
      cond (Nat.blt 268435456 len) none <|
      match h.obj id with
      | .cells vs el true false=>
        cond (Nat.beq el e&&Nat.ble (len*a.size) vs.length&&lu c&&(match x with | .sl b _ _ _=> !Nat.beq id b|_=>true))
         (some (.sl h.nx 0 (len+n) none,(h.put id .dead).new (.cells (vs.take (len*a.size)++c) e true false))) none
      |_=>none
    |_=>none
 |_,_=>none
noncomputable def JN(E:Env)(h:AH)(td:TypeId)(d s:AV):Option (AV×AH):=
 match E.tt.get td with
 |some { d:= .slice e,.. }=>
  match E.tt.get e with
  |none=>none
  |some g=>
   match d,s with
   | .sl id off len _,.sl f a b _=>
     let n:=Nat.min b len
     match jw E h f a (n*g.size)with
     |some c=>(dD h id off c).map λh'=>(int64 n,h')
     |none=>none
   | .sl id off len _,.str s=>
     let n:=Nat.min s.length len
     (dD h id off (bytesOf (s.take n))).map λh'=>(int64 n,h')
   | .sl _ _ _ _,.aM| .aM,.aM| .aM,.sl _ _ _ _=>some (int64 0,h)
   |_,_=>none
 |_=>none
def kW(lo hi:Nat)(x:AV):Option Nat:=
 match x with
 | .int _ i=>cond (decide (lo<=i∧i<=hi)) (some i.toNat) none
 |_=>none
def BK(x:Option AV)(hi a:Nat):Option Nat:=match x with |some v=>kW 0 hi v|none=>some a
def Uh(hi:Option AV)(m len:Nat)(mx:Bool):Option Nat:=match hi with |some v=>kW 0 m v|none=>cond mx none (some len)
def pX(id off size len m:Nat)(lo hi:Option AV)(mx:Bool):Option AV:=
 match Uh hi m len mx with
 |none=>none
 |some h=>match BK lo h 0 with
  |none=>none
  |some l=>some (.sl id (cond (Nat.beq m l) off (off+l*size)) (h - l) (some (m - l)))
def vY(id off size len:Nat)(lo hi:Option AV):Option AV:=
 match Uh hi len len false with
 |none=>none
 |some h=>match BK lo h 0 with
  |none=>none
  |some l=>cond (Nat.beq l 0) (some (.sl id off h none)) (cond (Nat.blt l len) (some (.sl id (off+l*size) (h - l) none)) (some .emp))
def Mv(s:List UInt8)(lo hi:Option AV):Option AV:=
 match Uh hi s.length s.length false with
 |none=>none
 |some h=>match BK lo h 0 with
  |none=>none
  |some l=>some (.str ((s.take h).drop l))
noncomputable def iN(E:Env)(t:TypeId)(x:AV)(lo hi mx:Option AV):Option AV:=
 match E.d t,x with
 |some .str,.str s=>cond mx.isSome none (Mv s lo hi)
 |some (.slice e),.aM=>match E.tt.get e,BK mx 0 0,Uh hi 0 0 mx.isSome,BK lo 0 0 with
  |some _,some _,some _,some _=>some .aM
  |_,_,_,_=>none
 |some (.array n e),.ptr id off=>match E.tt.get e,BK mx n n with
  |some a,some m=>pX id off a.size n m lo hi mx.isSome
  |_,_=>none
 |some (.slice e),.sl id off len (some c)=>match E.tt.get e,BK mx c c with
  |some a,some m=>pX id off a.size len m lo hi mx.isSome
  |_,_=>none
 |some (.slice e),.sl id off len none=>match E.tt.get e,mx with
  |some a,none=>vY id off a.size len lo hi
  |some a,some v=>match kW 0 len v with
   |some m=>pX id off a.size len m lo hi true
   |none=>none
  |_,_=>none
 |_,_=>none
def y9(a:Nat->Option (Nat×Nat)):List AV->List (Nat×AV)->Option (List AV)
 |l,[]=>some l
 |l,p::ps=>match a p.1 with
  |none=>none
  |some q=>cond p.2.isAny none
   (cond (Nat.beq p.2.cells.length q.2&&Nat.ble (q.1+q.2) l.length) (y9 a (setAt l q.1 p.2.cells) ps) none)
def TI.zeroV(t:TI):AV:=cond t.isAgg (.agg t.zero) (t.zero.getD 0 .any)
noncomputable def Ib(E:Env)(t:TypeId)(ps:List (Nat×AV)):Option AV:=
 match E.tt.get t with
 |none=>none
 |some ti=>match ti.d with
  | .struct b=>(y9 (λi=>(b[i]?).map λx=>(x.1,x.2.1)) ti.zero ps).map .agg
  | .array _ e=>match E.tt.get e with
    |some a=>(y9 (λi=>some (i*a.size,a.size)) ti.zero ps).map .agg
    |none=>none
  |_=>none
def wW:AV->Option AV
 | .ptr i o=>some (.ptr i o)
 | .fn g a b=>some (.fn g a b)
 | .iface t v=>some (.iface t v)
 | .yield i=>some (.yield i)
 |_=>none
noncomputable def uK(E:Env)(t:TypeId)(x:AV):Option AV:=
 match E.d t with
 |none=>none
 |some (.iface _)=>none
 |some _=>some (.iface t x)
noncomputable def uO(E:Env)(s:TypeId)(x:AV)(i:Nat):Option AV:=
 match E.d s,x with
 |some (.struct a),.ptr id off=>match a[i]? with
  |some (o,size,_)=>cond (Nat.beq size 0) none (some (.ptr id (off+o)))
  |none=>none
 |_,_=>none
noncomputable def Rm(E:Env)(u:TypeId)(l:List AV)(o:Nat):Option AV:=
 match E.tt.get u with
 |none=>none
 |some ti=>cond ti.isAgg ((takeN l o ti.size).map .agg) (l[o]?)
noncomputable def Ht(E:Env)(t:TypeId)(x:AV)(i:Nat):Option AV:=
 match E.d t,x with
 |some (.struct a),.agg l=>match a[i]? with
  |some (o,_,u)=>Rm E u l o
  |none=>none
 |_,_=>none
noncomputable def aR(E:Env)(t:TypeId)(x i:AV):Option AV:=
 match E.d t,x,i with
 |some (.slice e),.sl id off len _,.int _ n=>match E.tt.get e with
  |some a=>cond (decide (0<=n∧n<len)) (some (.ptr id (off+n.toNat*a.size))) none
  |none=>none
 |some (.array len e),.ptr id off,.int _ n=>match E.tt.get e with
  |some a=>cond (decide (0<=n∧n<len)) (some (.ptr id (off+n.toNat*a.size))) none
  |none=>none
 |_,_,_=>none
noncomputable def Hg(E:Env)(t:TypeId)(x i:AV):Option AV:=
 match E.d t,x,i with
 |some .str,.str s,.int _ n=>cond (decide (0<=n)) ((s[n.toNat]?).map λb=> .int .u8 b.toNat) none
 |some (.array len e),.agg l,.int _ n=>match E.tt.get e with
  |some a=>cond (decide (0<=n∧n<len)) (Rm E e l (n.toNat*a.size)) none
  |none=>none
 |_,_,_=>none
noncomputable def M9(h:AH):AV->Option (List AE)
 | .nT=>some []
 | .map id=>match h.obj id with | .map es _=>some es|_=>none
 |_=>none
noncomputable def vF(E:Env)(h:AH)(t:TypeId)(x i:AV)(ok:Bool):Option AV:=
 match E.d t with
 |some (.map b e)=>match E.tt.get e,cond (He E b i) (M9 h x) none with
  |some a,some es=>match yx i es 0 with
   |none=>none
   |some (some (_,v))=>some (cond ok (.bV [v,.bool true]) v)
   |some none=>some (cond ok (.bV [a.zeroV,.bool false]) a.zeroV)
  |_,_=>none
 |_=>none
noncomputable def zf(h:AH):AV->Option AV
 | .ptr id 0=>match h.obj id with
   | .GR (some m) _ seen a=>match h.obj m,seen.getLast? with
     | .map es b,some st=>cond (Nat.beq b a) ((es.find? λe=>Nat.beq e.born st).map λe=> .bV [e.key,e.val]) none
     |_,_=>none
   |_=>none
 |_=>none
def ze(x:AV)(i:Nat):Option AV:=
 match x with
 | .bV l=>l[i]?
 |_=>none
noncomputable def Dc(E:Env)(t:TypeId)(x:AV)(ok:Bool):Option AV:=
 match E.tt.get t,x with
 |some ti,.iface u v=>match ti.d with
  | .iface _=>none
  |_=>cond (Nat.beq u t) (some (cond ok (.bV [v,.bool true]) v)) (cond ok (some (.bV [ti.zeroV,.bool false])) none)
 |_,_=>none
noncomputable def T9(E:Env)(h:AH)(t:TypeId)(x:AV):Option AV:=
 match E.d t,x with
 |some .str,.str s=>some (int64 s.length)
 |some (.array n _),_=>some (int64 n)
 |some (.slice _),.aM=>some (int64 0)
 |some (.slice _),.emp=>some (int64 0)
 |some (.slice _),.aO _ n _=>some (int64 n)
 |some (.slice _),.sl _ _ n _=>some (int64 n)
 |some (.map _ _),.nT=>some (int64 0)
 |some (.map _ _),.map id=>match h.obj id with | .map es _=>some (int64 es.length)|_=>none
 |_,_=>none
noncomputable def uH(E:Env)(h:AH)(b:Builtin)(args:List AV)(ts:List TypeId):Option AV:=
 match b with
 | .len=>match args,ts with |[x],[t]=>T9 E h t x|_,_=>none
 | .max=>match args with |[.int k a,.int c b]=>cond (k==c) (some (.int k (cond (decide (b>a)) b a))) none|_=>none
 | .min=>match args with |[.int k a,.int c b]=>cond (k==c) (some (.int k (cond (decide (b<a)) b a))) none|_=>none
 | .unsafeSliceData=>match args with |[.sl id off (_+1) _]=>some (.ptr id off)|[.aM]=>some .nQ|_=>none
 |_=>none
noncomputable def N7(E:Env)(s d:TypeId)(x:AV):Option AV:=
 match E.d s,E.d d,x with
 |some _,some (.int k),.int _ n=>some (.int k (k.wrap n))
 |some .str,some .str,.str a=>some (.str a)
 |_,_,_=>none
def Fa(c:Call):Option Builtin:=match c.callee with | .builtin b=>some b|_=>none
abbrev QF:=Env->Tr AV->AH->Option AV
noncomputable def fA(op:Op):QF:=
 @Op.rec (λ_=>QF)
  (λx _ tm _=>some (ev tm x))
  (λx _ tm _=>some (ev tm x))
  (λc a b _ tm _=>match ev tm c with | .bool t=>some (cond t (ev tm a) (ev tm b))|_=>none)
  (λ_ _ _ _=>none)
  (λ_ _ _ _ _=>none)
  (λt e E tm _=>Ib E t (OU tm e.toList))
  (λ_ _ _ _ _ _=>none)
  (λ_ _ _ _ _ _ _=>none)
  (λt a E tm h=>match ev tm a with | .ptr id off=>loadT E h t id off|_=>none)
  (λ_ _ _ _ _ _=>none)
  (λ_ _ _ _=>none)
  (λ_ _ _ _=>none)
  (λx _ tm _=>wW (ev tm x))
  (λop t x y _ E tm _=>Xw E op t x y (unB (ev tm x)) (unB (ev tm y)))
  (λop _ x _ tm _=>unA op (ev tm x))
  (λs d x E tm _=>N7 E s d (ev tm x))
  (λ_ _ _ _ _=>none)
  (λt x E tm _=>uK E t (ev tm x))
  (λg a b _ tm _=>match g with | .func g=>some (.fn g (evs tm a.toList) (evs tm b.toList))|_=>none)
  (λ_ _ _ _ _=>none)
  (λ_ _ _ _ _=>none)
  (λ_ _ _ _ _ _=>none)
  (λt x lo hi mx E tm _=>iN E t (l9 E (ev tm x)) (Lr tm lo) (Lr tm hi) (Lr tm mx))
  (λs x i E tm _=>uO E s (ev tm x) i)
  (λt x i E tm _=>Ht E t (ev tm x) i)
  (λt x i E tm _=>aR E t (l9 E (ev tm x)) (ev tm i))
  (λt x i E tm _=>Hg E t (ev tm x) (ev tm i))
  (λt x i ok E tm h=>vF E h t (ev tm x) (ev tm i) ok)
  (λ_ _ _ _ _ _ _=>none)
  (λ_ _ _ _ _ _=>none)
  (λ_ _ _ _ _ _ _=>none)
  (λ_ _ _ _ _=>none)
  (λ_ _ _ _ _=>none)
  (λit _ tm h=>zf h (ev tm it))
  (λx _ t ok E tm _=>Dc E t (ev tm x) ok)
  (λx i _ tm _=>ze (ev tm x) i)
  (λc E tm h=>match Fa c with
   |some b=>uH E h b (evs tm c.args.toList) c.argTypes.toList
   |none=>none)
  (λ_ _ _ _=>none)
  (λ_ _ _ _=>none)
  (λ_ _ _ _=>none)
  (λ_ _ _ _ _=>none)
  (λ_ _ _ _ _ _=>none)
  (λ_ _ _ _ _=>none)
  op
noncomputable def sQ(E:Env)(h:AH)(t:TypeId):Option OR:=
 match E.tt.get t with
 |some ti=>some (.val (.ptr h.nx 0) (h.new (.cells ti.zero t false false)))
 |none=>none
noncomputable def Da(E:Env)(h:AH)(t:TypeId)(v:AV):Option OR:=
 match E.tt.get t with
 |some ti=>cond v.isAny none (some (.val (.ptr h.nx 0) (h.new (.cells v.cells t false false))))
 |none=>none
noncomputable def iG(E:Env)(h:AH)(t:TypeId)(len:Nat)(ps:List (Nat×AV)):Option OR:=
 match E.d t with
 |some (.slice e)=>match E.tt.get e with
  |some a=>cond (Nat.blt 65536 (len*a.size)) none
   ((y9 (λi=>some (i*a.size,a.size)) (rep len a.zero) ps).map λcs=> .val (.sl h.nx 0 len (some len)) (h.new (.cells cs e false false)))
  |none=>none
 |_=>none
noncomputable def fU(E:Env)(h:AH)(t:TypeId)(a v:AV):Option OR:=
 match E.tt.get t,a with
 |some ti,.ptr id off=>cond v.isAny none
  (cond (Nat.beq v.cells.length ti.size) ((dD h id off v.cells).map λh'=> .val gH h') none)
 |_,_=>none
noncomputable def eF(E:Env)(h:AH)(t:TypeId)(l c:AV):Option OR:=
 match E.d t,l,c with
 |some (.slice e),.int _ n,.int _ m=>match E.tt.get e with
  |some a=>cond (decide (0<=n∧n<=m∧m<=1048576)&&Nat.ble a.bytes 4096)
   (some (.val (.sl h.nx 0 n.toNat (some m.toNat)) (h.new (.cells (rep m.toNat a.zero) e false false)))) none
  |none=>none
 |_,_,_=>none
noncomputable def j5(E:Env)(h:AH)(t:TypeId)(r:Option AV):Option OR:=
 match r with
 |none=>some (.val (.map h.nx) (h.new (.map [] 0)))
 |some (.int _ _)=>(match E.d t with
  |some (.map _ _)=>some (.val (.map h.nx) (h.new (.map [] 0)))
  |_=>none)
 |_=>none
noncomputable def iZ(E:Env)(h:AH)(t:TypeId)(m k x:AV):Option OR:=
 match E.d t,m with
 |some (.map b _),.map id=>match cond (He E b k) (h.obj id) .dead with
  | .map es a=>match yx k es 0 with
    |none=>none
    |some (some (i,_))=>some (.val gH (h.put id (.map (es.modify i λe=>{ e with key:=k,val:=x }) a)))
    |some none=>some (.val gH (h.put id (.map (es++[⟨k,x,a⟩]) (a+1))))
  |_=>none
 |_,_=>none
noncomputable def nH(E:Env)(h:AH)(t:TypeId)(m k:AV):Option OR:=
 match E.d t,m with
 |some (.map c e),.map id=>match cond (He E c k) (h.obj id) .dead,E.tt.get e with
  | .map es a,some b=>match yx k es 0 with
    |none=>none
    |some (some (i,v))=>match es[i]? with
     |some en=>some (.val (.bV [v,int64 en.born]) (h.put id (.map (es.modify i λe=>{ e with key:=k }) a)))
     |none=>none
    |some none=>some (.val (.bV [b.zeroV,int64 a]) (h.put id (.map (es++[⟨k,b.zeroV,a⟩]) (a+1))))
  |_,_=>none
 |_,_=>none
noncomputable def kD(h:AH)(m s x:AV):Option OR:=
 match m,s with
 | .map id,.int _ st=>match h.obj id with
   | .map es a=>match es.findIdx? (λe=>(e.born:Int)==st)with
     |some i=>some (.val gH (h.put id (.map (es.modify i λe=>{ e with val:=x }) a)))
     |none=>none
   |_=>none
 |_,_=>none
noncomputable def wh(E:Env)(h:AH)(t:TypeId)(x:AV):Option OR:=
 match E.d t,x with
 |some .str,.str s=>some (.val (.ptr h.nx 0) (h.new (.sit s 0)))
 |some (.map _ _),.nT=>some (.val (.ptr h.nx 0) (h.new (.GR none 0 [] 0)))
 |some (.map _ _),.map id=>match h.obj id with
  | .map _ a=>some (.val (.ptr h.nx 0) (h.new (.GR (some id) a [] a)))
  |_=>none
 |_,_=>none
noncomputable def F8(h:AH)(id m a:Nat)(seen:List Nat)(last:Nat):Option OR:=
 match h.obj m with
 | .map es b=>
   cond (!seen.isEmpty&& !es.isEmpty&&es.all (λe=>Nat.ble last e.born)) none
    (cond ((es.filter λe=> !seen.contains e.born).all λe=>Nat.blt e.born a)
     (match es.filter λe=> !seen.contains e.born with
      |[]=>some (.val (.bV [.bool false]) h)
      |l=>some (.alts (l.map λe=>(.bV [.bool true,e.key,e.val],h.put id (.GR (some m) a (seen++[e.born]) b)))))
     none)
 |_=>none
noncomputable def ET(h:AH)(it:AV)(isS:Bool):Option OR:=
 match it with
 | .ptr id 0=>match h.obj id,isS with
   | .sit s pos,true=>match s[pos]? with
     |none=>some (.val (.bV [.bool false]) h)
     |some b=>cond (decide (b.toNat<128)) (some (.val (.bV [.bool true,int64 pos,.int .i32 b.toNat]) (h.put id (.sit s (pos+1))))) none
   | .GR none _ _ _,false=>some (.val (.bV [.bool false]) h)
   | .GR (some m) a seen last,false=>F8 h id m a seen last
   |_,_=>none
 |_=>none
noncomputable def xW(E:Env)(h:AH)(t:TypeId)(m k:AV):Option OR:=
 match E.d t,m with
 |some (.map b _),.nT=>cond (He E b k) (some (.val (.bV []) h)) none
 |some (.map b _),.map id=>match cond (He E b k) (h.obj id) .dead with
  | .map es a=>match yx k es 0 with
    |none=>none
    |some (some (i,_))=>some (.val (.bV []) (h.put id (.map (es.eraseIdx i) a)))
    |some none=>some (.val (.bV []) (h.put id (.map es a)))
  |_=>none
 |_,_=>none
noncomputable def xZ(E:Env)(h:AH)(t:TypeId)(m:AV):Option OR:=
 match E.d t,m with
 |some (.map _ _),.map id=>match h.obj id with
  | .map _ a=>some (.val (.bV []) (h.put id (.map [] a)))
  |_=>none
 |some (.slice e),.sl id off n _=>match E.tt.get e with
  |some b=>cond (Nat.beq n 0) none ((dD h id off (rep n b.zero)).map λh'=> .val (.bV []) h')
  |none=>none
 |_,_=>none
noncomputable def Xr(E:Env)(e:TypeId):Bool:=
 match E.tt.get e with
 |some ti=>(match ti.d with | .int .u8=>Nat.beq ti.size 1|_=>false)
 |none=>false
noncomputable def lM(E:Env)(h:AH)(a:TypeId)(p n:AV):Option OR:=
 match p,n with
 | .nQ,.int _ n=>cond (n==0) (some (.val (.str []) h)) none
 | .ptr id off,.int _ n=>
   match E.d a,h.obj id with
   |some (.ptr e),.cells vs el g _=>
    cond (Xr E e&&Nat.beq el e&&decide (0<n)&&decide (n<=268435456)) (match takeN vs off n.toNat with
     |some c=>(strOf c).map λs=> .val (.str s) (h.put id (.cells vs el g true))
     |none=>none) none
   |_,_=>none
 |_,_=>none
noncomputable def jv(E:Env)(h:AH)(b:Builtin)(args:List AV)(ts:List TypeId):Option OR:=
 match b with
 | .append=>match args,ts with |[s,x],[t,u]=>(nM E h t u (l9 E s) (l9 E x)).map λp=> .val p.1 p.2|_,_=>none
 | .copy=>match args,ts with |[d,s],t::_=>(JN E h t (l9 E d) (l9 E s)).map λp=> .val p.1 p.2|_,_=>none
 | .delete=>match args,ts with |[m,k],t::_=>xW E h t m k|_,_=>none
 | .clear=>match args,ts with |[m],t::_=>xZ E h t m|_,_=>none
 | .unsafeString=>match args,ts with |[p,n],t::_=>lM E h t p n|_,_=>none
 |_=>none
def Gf(E:Env)(r:AV)(m:String)(args:List AV):Option OR:=
 match r with
 | .iface t v=>match E.M7.find? (λp=>Nat.beq p.1 t&&p.2.1==m)with
   |some p=>some (.call p.2.2 (v::args))
   |none=>none
 |_=>none
def Sn(g:AV)(args:List AV):Option OR:=
 match g with
 | .fn i first cap=>some (.call i (first++args++cap))
 | .yield l=>some (.yield l args)
 |_=>none
abbrev LF:=Env->Tr AV->AH->Option OR
noncomputable def AU(c:Call):LF:=λE tm h=>match c.callee with
 | .builtin b=>jv E h b (evs tm c.args.toList) c.argTypes.toList
 | .value g=>Sn (ev tm g) (evs tm c.args.toList)
 | .invoke r m=>Gf E (ev tm r) m (evs tm c.args.toList)
noncomputable def fV(op:Op):LF:=
 @Op.rec (λ_=>LF)
  (λ_ _ _ _=>none)
  (λ_ _ _ _=>none)
  (λ_ _ _ _ _ _=>none)
  (λt E _ h=>sQ E h t)
  (λt x E tm h=>Da E h t (ev tm x))
  (λ_ _ _ _ _=>none)
  (λt len e E tm h=>iG E h t len (OU tm e.toList))
  (λt m k x E tm h=>iZ E h t (ev tm m) (ev tm k) (ev tm x))
  (λ_ _ _ _ _=>none)
  (λt a x E tm h=>fU E h t (ev tm a) (ev tm x))
  (λ_ _ _ _=>none)
  (λ_ _ _ _=>none)
  (λ_ _ _ _=>none)
  (λ_ _ _ _ _ _ _ _=>none)
  (λ_ _ _ _ _ _=>none)
  (λs d x E tm h=>E8 E s d (ev tm x) h)
  (λ_ _ _ _ _=>none)
  (λ_ _ _ _ _=>none)
  (λ_ _ _ _ _ _=>none)
  (λt r E tm h=>j5 E h t (Lr tm r))
  (λ_ _ _ _ _=>none)
  (λt l c E tm h=>eF E h t (ev tm l) (ev tm c))
  (λ_ _ _ _ _ _ _ _=>none)
  (λ_ _ _ _ _ _=>none)
  (λ_ _ _ _ _ _=>none)
  (λ_ _ _ _ _ _=>none)
  (λ_ _ _ _ _ _=>none)
  (λ_ _ _ _ _ _ _=>none)
  (λt m k x E tm h=>iZ E h t (ev tm m) (ev tm k) (ev tm x))
  (λt m k E tm h=>nH E h t (ev tm m) (ev tm k))
  (λ_ m s x _ tm h=>kD h (ev tm m) (ev tm s) (ev tm x))
  (λt x E tm h=>wh E h t (ev tm x))
  (λit isS _ tm h=>ET h (ev tm it) isS)
  (λ_ _ _ _=>none)
  (λ_ _ _ _ _ _ _=>none)
  (λ_ _ _ _ _=>none)
  AU
  (λ_ _ _ _=>some .stop)
  (λc _ tm _=>match c.callee with
   | .value g=>(match ev tm g with
     | .fn f a b=>some (.rz ⟨.fn f a b,evs tm c.args.toList⟩)
     |_=>none)
   |_=>none)
  (λ_ _ _ _=>none)
  (λ_ _ _ _ _=>none)
  (λ_ _ _ _ _ _=>none)
  (λ_ _ _ _ _=>none)
  op
noncomputable def Lm(x:EX)(args:List AV)(h:AH):Option OR:=
 match x,args with
 | .uJ,[v]=>some (.val v h)
 | .xU,_=>some (.val (.bool false) h)
 | .race,[.ptr id _]=>(match h.obj id with
   | .cells _ _ _ _=>some (.val (.bV []) h)
   |_=>none)
 | .Un,[]=>some (.val (.bV []) { h with df:=h.df+1 })
 | .en,[]=>cond (Nat.beq h.df 0) none (some (.val (.bV []) { h with df:=h.df - 1 }))
 | .Fg k,[.ptr id off,.int f d]=>(match h.obj id with
   | .cells vs _ _ _=>(match vs[off]? with
     |some (.int c n)=>cond (xg k f&&xg k c) ((dD h id off [.int k (k.wrap (n+d))]).map λh'=> .val (.int k (k.wrap (n+d))) h') none
     |_=>none)
   |_=>none)
 | .BL k,[.ptr id off]=>(match h.obj id with
   | .cells vs _ _ _=>(match vs[off]? with
     |some (.int c n)=>cond (xg k c) (some (.val (.int k n) h)) none
     |_=>none)
   |_=>none)
 | .Fb k,[.ptr id off,.int f a,.int k1 b]=>(match h.obj id with
   | .cells vs _ _ false=>(match vs[off]? with
     |some (.int c n)=>cond (xg k f&&xg k c&&xg k k1) (cond (n==a) ((dD h id off [.int k b]).map λh'=> .val (.bool true) h') (some (.val (.bool false) h))) none
     |_=>none)
   |_=>none)
 | .BH,[.str a,.str b]=>some (.val (int64 (Extern.BytealgCompare.cmp ⟨a.toArray⟩ ⟨b.toArray⟩)) h)
 | .wY,[.iface t (.map id)]=>(match h.obj id with
   | .map es e=>some (.val (.iface t (.map h.nx)) (h.new (.map es e)))
   |_=>none)
 | .stop,_=>some .stop
 |_,_=>none
theorem runT_bind{α β:Type}(P:Program)(f:α->Sem β)(s:Sem α):∀(w:World) (b:Array Event),
 (s>>=f).runT P w b=match s.runT P w b with
  |(.ok a w',e1)=>(f a).runT P w' e1
  |(.halt h w',e1)=>(.halt h w',e1):=by
 intro w b;show(s.bind f).runT P w b=_;rw[Sem.runT_bind'];cases s.runT P w b with
 |mk r e=>cases r<;>rfl
def aj{α:Type}(P:Program)(s:Sem α)(w:World)(r:α)(w':World)(es:List Event):Prop:=
 ∀a,s.runT P w a=(.ok r w',a++es.toArray)
section
variable{Z Y:Type}{P:Program}{w w1 w2:World}
theorem aj.pure(a:Z):aj P (Pure.pure a:Sem Z) w a w []:=λb=>by
 show(Sem.pure a).runT P w b=_;unfold Sem.runT;simp
theorem aj.bind{s:Sem Z}{f:Z->Sem Y}{a:Z}{b:Y}{e1 e2:List Event}(h1:aj P s w a w1 e1)(c:aj P (f a) w1 b w2 e2):
 aj P (s>>=f) w b w2 (e1++e2):=λd=>by
 rw[runT_bind,h1 d];simp only;rw[c];simp
theorem aj.aG{s:Sem Z}{f:Z->Sem Y}{a:Z}{b:Y}{e2:List Event}(h1:aj P s w a w1 [])(c:aj P (f a) w1 b w2 e2):
 aj P (s>>=f) w b w2 e2:=by simpa using aj.bind h1 c
theorem aj.run{s:Sem Z}{a:Z}{es:List Event}(h:aj P s w a w1 es):s.run P w= .ok a w1:=by
 have:=h #[];rw[Sem.runT_eq]at this;exact(iH this).1
theorem aj.load{a:Addr}{v:Value}(h:w.cell? a=some v):aj P (Go.load a) w v w [⟨.cell a,false,false⟩]:=λb=>by
 unfold Go.load;simp only[Sem.runT,h];simp[Sem.runT];rfl
theorem aj.store{a:Addr}{v v0:Value}(h:w.cell? a=some v0)(b:w.frozen? a=false)(c:∀cs,v≠.agg cs)(d:∀cs,v≠.tuple cs):
 aj P (Go.store a v) w () (w.setCell a v) [⟨.cell a,true,false⟩]:=λe=>by
 unfold Go.store;cases v<;>first
  |exact aP rfl (c _)
  |exact aP rfl (d _)
  |(simp only[Sem.runT,h,b];simp[Sem.runT];rfl)
theorem aj.new(o:Obj):aj P (newObj o) w w.heap.size { w with heap:=w.heap.push o } []:=λa=>by
 unfold newObj;simp[Sem.runT]
theorem aj.getObj{r:Nat}{o:Obj}(h:w.heap[r]? =some o)(a:∀c e f,o≠.cells c e f):aj P (Go.getObj r) w o w [⟨.obj r,false,o.isChan⟩]:=λb=>by
 unfold Go.getObj;cases o<;>first
  |exact aP rfl (a _ _ _)
  |(simp only[Sem.runT,h];simp[Sem.runT])
theorem aj.setObj{r:Nat}{o a:Obj}(h:w.heap[r]? =some o)(b:∀c e f,o≠.cells c e f):
 aj P (Go.setObj r a) w () { w with heap:=w.heap.setIfInBounds r a } [⟨.obj r,true,a.isChan⟩]:=λd=>by
 unfold Go.setObj;cases o<;>first
  |exact aP rfl (b _ _ _)
  |(simp only[Sem.runT,h];simp[Sem.runT])
theorem aj.mark(m:Mark):aj P (Go.mark m) w () w [⟨.mark m,false,true⟩]:=λa=>by
 unfold Go.mark;simp[Sem.runT]
theorem aj.program:aj P Go.program w P w []:=λa=>by unfold Go.program;simp[Sem.runT]
theorem aj.shape(r:Nat):aj P (Go.shape r) w (w.shape? r) w []:=λa=>by unfold Go.shape;simp[Sem.runT]
theorem aj.freeze(a:Addr)(n:Nat):aj P (Go.freeze a n) w () (w.freeze a n) []:=λb=>by unfold Go.freeze;simp[Sem.runT]
theorem aj.choose(q:Question):∃k w',aj P (Go.choose q) w k w' []∧(∃d,w'={ w with drawn:=d })∧(∃t,k=q.cut t∨k=0∧q.forced=true):=by
 by_cases a:q.forced=true
 .exact⟨0,w,λb=>by unfold Go.choose;simp[Sem.runT,a],⟨w.drawn,rfl⟩,0,.inr ⟨rfl,a⟩⟩
 .exact⟨_,_,λb=>by unfold Go.choose;simp[Sem.runT,a];exact⟨rfl,rfl⟩,⟨_,rfl⟩,_,.inl rfl⟩
theorem aj.typeInfo{t:TypeId}{i:TypeInfo}(h:P.info? t=some i):aj P (Go.typeInfo t) w i w []:=by
 unfold Go.typeInfo;exact aj.bind (e1:=[]) aj.program (by simp only[h];exact aj.pure i)
theorem aj.underlying{t:TypeId}{d:TypeDesc}(h:P.underlying t=some d):aj P (Go.underlying t) w d w []:=by
 unfold Go.underlying;exact aj.bind (e1:=[]) aj.program (by simp only[h];exact aj.pure d)
theorem aj.sizeOf{t:TypeId}{i:TypeInfo}(h:P.info? t=some i):aj P (Go.sizeOf t) w i.size w []:=by
 unfold Go.sizeOf;exact aj.bind (e1:=[]) (aj.typeInfo h) (aj.pure _)
theorem aj.zeroValue{t:TypeId}{i:TypeInfo}{v:Value}(h:P.info? t=some i)(a:i.zero=some v):aj P (Go.zeroValue t) w v w []:=by
 unfold Go.zeroValue;exact aj.bind (e1:=[]) (aj.typeInfo h) (by simp only[a];exact aj.pure v)
end
def Dl(listed:Array Bool):Nat->Bool:=λj=>listed.getD j false
def left'(n:Nat)(listed:Array Bool):Nat:=((List.range n).filter λi=>Dl listed i==false).length
def Left(b:Array Oper)(n:Nat)(c:List Nat):Prop:=
 ∃a t listed,listed.size=b.size∧left' b.size listed<=a∧(∀i,Dl listed i=decide (i<n))∧c=Region.linearise.go .any b a t listed []
noncomputable def fin(x:AX)(d:Option Tmp)(v:AV)(tm:Tr AV):Tr AV:=
 match d with
 |none=>tm
 |some d=>tm.set d (cond (Nat.blt d x.nt) v gH)
def yA(id:Nat):List AI->Option (List AI)
 | .inBlock a::k=>cond (Nat.beq a id) (some k) (yA id k)
 |_::k=>yA id k
 |[]=>none
def yw(l:Nat):List AI->Option (List AI)
 | .inScope body::k=>match findLabel body l with
   |some a=>some (.code a:: .inScope body::k)
   |none=>yw l k
 |_::k=>yw l k
 |[]=>none
noncomputable def PO(c:Array Oper)(tm:Tr AV)(j:Nat)(a:Bool):Option Bool:=
 match c[j]? with
 |none=>some false
 |some o=>match o.dst with
  |none=>some false
  |some d=>match tm.get d with
   |some (.bool b)=>some (cond a b (!b))
   |some (.bV [])=>some false
   |_=>none
noncomputable def eX(o:Oper)(a:Array Oper)(tm:Tr AV):Option Bool:=
 match o.guard with
 |none=>some true
 |some p=>PO a tm p.1 p.2
inductive A1 where
 |go (f:AF) (h:AH)
 |call (f:AF) (dst:Option Tmp) (g:FuncId) (args:List AV) (h:AH)
 |dcall (f:AF) (g:FuncId) (args:List AV) (h:AH)
 |round (f:AF) (dst:Option Tmp) (id:Nat) (args:List AV) (h:AH)
 |drawn (x:AX) (tm:Tr AV) (ops:Array Oper) (k:List AI) (ds:List AD) (h:AH)
 |alts (l:List (AF×AH))
 |ret (v:AV) (h:AH)
 |stop
noncomputable def GK(E:Env)(b:List ResultVar)(tm:Tr AV)(h:AH):Option (List AV):=
 match b with
 |[]=>some []
 | .tmp t::l=>(match GK E l tm h with |some r=>some (ev tm (.tmp t)::r)|none=>none)
 | .cell a t::l=>match ev tm (.tmp a)with
   | .ptr id off=>(match loadT E h t id off with
     |some v=>(match GK E l tm h with |some r=>some (v::r)|none=>none)
     |none=>none)
   |_=>none
def JE(b:Array Oper)(a:List Oper)(k:List AI):List AI:= .inRegion b a::k
noncomputable def Uk(x:AX)(tm:Tr AV)(d:Option Tmp)(td:List AI)(ds:List AD):Option OR->Option A1
 |some (.val v h')=>some (.go ⟨x,fin x d v tm,td,ds,false⟩ h')
 |some .stop=>some .stop
 |_=>none
noncomputable def H8(E:Env)(x:AX)(tm:Tr AV)(d:Option Tmp)(td:List AI)(ds:List AD)(h:AH)(g:FuncId)(args:List AV):Option A1:=
 match E.ft.get g with
 |some ⟨some _,_,_,_⟩=>some (.call ⟨x,tm,td,ds,false⟩ d g args h)
 |some ⟨none,_,_,e⟩=>Uk x tm d td ds (Lm e args h)
 |none=>none
noncomputable def Rz(E:Env)(x:AX)(tm:Tr AV)(d:Option Tmp)(td:List AI)(ds:List AD)(h:AH):Option OR->Option A1
 |some (.val v h')=>some (.go ⟨x,fin x d v tm,td,ds,false⟩ h')
 |some (.call g args)=>H8 E x tm d td ds h g args
 |some (.yield l args)=>some (.round ⟨x,tm,td,ds,false⟩ d l args h)
 |some (.rz a)=>(match x.round with |none=>some (.go ⟨x,fin x d gH tm,td,a::ds,false⟩ h)|some _=>none)
 |some (.alts l)=>some (.alts (l.map λp=>(⟨x,fin x d p.1 tm,td,ds,false⟩,p.2)))
 |some .stop=>some .stop
 |none=>none
noncomputable def YP(E:Env)(x:AX)(tm:Tr AV)(td:List AI)(ds:List AD)(h:AH)(o:Oper):Option A1:=
 match fA o.op E tm h with
 |some v=>some (.go ⟨x,fin x o.dst v tm,td,ds,false⟩ h)
 |none=>Rz E x tm o.dst td ds h (fV o.op E tm h)
noncomputable def Kz(E:Env)(x:AX)(tm:Tr AV)(todo:List AI)(ds:List AD)(h:AH):Option A1:=
 match ds with
 |d::ds=>(match d.f with
  | .nT=>
    (match d.args with
    |[.ptr id 0]=>(match h.obj id with
     | .rz false=>some (.go ⟨x,tm,todo,ds,true⟩ (h.put id (.rz true)))
     |_=>none)
    |_=>none)
  | .fn g first cap=>(match E.ft.get g with
    |some ⟨some _,_,_,_⟩=>some (.dcall ⟨x,tm,todo,ds,true⟩ g (first++d.args++cap) h)
    |some ⟨none,_,_,e⟩=>(match Lm e (first++d.args++cap) h with
     |some (.val _ h')=>some (.go ⟨x,tm,todo,ds,true⟩ h')
     |some .stop=>some .stop
     |_=>none)
    |none=>none)
  |_=>none)
 |[]=>(match E.ft.get x.fn with
  |some ⟨some _,_,a,_⟩=>(match GK E a tm h with
   |some [v]=>some (.ret v h)
   |some l=>some (.ret (.bV l) h)
   |none=>none)
  |_=>none)
noncomputable def kX(x:AX)(tm:Tr AV)(todo:List AI)(ds:List AD)(h:AH)(jump:Option Code):Option A1:=
 match x.round with
 |none=>(match jump with
  |none|some .ret=>some (.go ⟨x,tm,todo,ds,true⟩ h)
  |_=>none)
 |some l=>(match h.obj l with
  | .loop _ _ fn nt t ps a b d=>some (.ret (.bool jump.isNone) (h.put l (.loop (cond jump.isNone .ready .done) jump fn nt t ps a b d)))
  |_=>none)
noncomputable def qd(E:Env)(x:AX)(tm:Tr AV)(ds:List AD)(h:AH)(k:List AI)(g:Operand)(ps:Array Tmp)(a b:Code):Option A1:=
 match(match x.round with
       |some l=>(match h.obj l with | .loop _ _ _ _ _ _ _ _ d=>some (d,h,[])|_=>none)
       |none=>some (h.nx,h.new (.rz false),[AD.mk .nT [.ptr h.nx 0]]))with
 |some (d,h1,mark)=>(match ev tm g with
  | .fn i first cap=>(match E.ft.get i with
    |some ⟨some _,_,_,_⟩=>some (.call ⟨x,tm,.endRangeFunc h1.nx::k,mark++ds,false⟩ none i (first++[.yield h1.nx]++cap) (h1.new (.loop .ready none x.fn x.nt tm ps.toList a b d)))
    |_=>none)
  |_=>none)
 |none=>none
noncomputable def oC(E:Env)(x:AX)(tm:Tr AV)(ds:List AD)(h:AH)(k:List AI)(b:Array Oper)(o:Oper)(a:List Oper):Option A1:=
 match eX o b tm with
 |some true=>YP E x tm (JE b a k) ds h o
 |some false=>some (.go ⟨x,fin x o.dst gH tm,JE b a k,ds,false⟩ h)
 |none=>none
noncomputable def HY(E:Env)(c:Code)(k:List AI)(x:AX)(tm:Tr AV)(ds:List AD)(h:AH):Option A1:=
 (match c with
  | .skip=>λ_ k x tm ds h=>some (.go ⟨x,tm,k,ds,false⟩ h)
  | .label _=>λ_ k x tm ds h=>some (.go ⟨x,tm,k,ds,false⟩ h)
  | .ret=>λ_ k x tm ds h=>kX x tm (.code .ret::k) ds h (some .ret)
  | .seq a b=>λ_ k x tm ds h=>some (.go ⟨x,tm,.code a:: .code b::k,ds,false⟩ h)
  | .cond c a b=>λ_ k x tm ds h=>(match ev tm c with
    | .bool t=>some (.go ⟨x,tm,.code (cond t a b)::k,ds,false⟩ h)
    |_=>none)
  | .block id body=>λ_ k x tm ds h=>some (.go ⟨x,tm,.code body:: .inBlock id::k,ds,false⟩ h)
  | .loop body=>λ_ k x tm ds h=>some (.go ⟨x,tm,.code body:: .inLoop body::k,ds,false⟩ h)
  | .scope body=>λ_ k x tm ds h=>some (.go ⟨x,tm,.code body:: .inScope body::k,ds,false⟩ h)
  | .exit id=>λ_ k x tm ds h=>(match yA id k with
    |some f=>some (.go ⟨x,tm,f,ds,false⟩ h)
    |none=>kX x tm (.code (.exit id)::k) ds h (some (.exit id)))
  | .goto l=>λ_ k x tm ds h=>(match yw l k with
    |some f=>some (.go ⟨x,tm,f,ds,false⟩ h)
    |none=>kX x tm (.code (.goto l)::k) ds h (some (.goto l)))
  | .rangeFunc g ps a b=>λE k x tm ds h=>qd E x tm ds h k g ps a b
  | .region _ d e=>λ_ k x tm ds h=>cond e (some (.drawn x tm d k ds h)) (some (.go ⟨x,tm,JE d d.toList k,ds,false⟩ h))
  | .refuse _=>λ_ _ _ _ _ _=>none:Env->List AI->AX->Tr AV->List AD->AH->Option A1) E k x tm ds h
noncomputable def RQ(E:Env)(i:AI)(k:List AI)(x:AX)(tm:Tr AV)(ds:List AD)(h:AH):Option A1:=
 (match i with
  | .code c=>λE k x tm ds h=>HY E c k x tm ds h
  | .inBlock _=>λ_ k x tm ds h=>some (.go ⟨x,tm,k,ds,false⟩ h)
  | .inScope _=>λ_ k x tm ds h=>some (.go ⟨x,tm,k,ds,false⟩ h)
  | .inLoop body=>λ_ k x tm ds h=>some (.go ⟨x,tm,.code body:: .inLoop body::k,ds,false⟩ h)
  | .inRegion f l=>λE k x tm ds h=>(match l with
    |[]=>some (.go ⟨x,tm,k,ds,false⟩ h)
    |o::e=>oC E x tm ds h k f o e)
  | .inRangeFunc _=>λ_ _ _ _ _ _=>none
  | .endRangeFunc l=>λ_ k x tm ds h=>(match h.obj l with
    | .loop st p fn nt t ps a b d=>cond (match st with | .busy=>true|_=>false) none
     (some (.go ⟨x,tm,(match p with |some c=> .code c::k|none=>k),ds,false⟩ (h.put l (.loop .exhausted p fn nt t ps a b d))))
    |_=>none)
  | .beginRound=>λ_ k x tm ds h=>(match x.round with
    |some l=>(match h.obj l with
     | .loop .ready p fn nt t ps a b d=>some (.go ⟨x,tm,k,ds,false⟩ (h.put l (.loop .busy p fn nt t ps a b d)))
     |_=>none)
    |none=>none)
  | .rT _ _=>λ_ _ _ _ _ _=>none:Env->List AI->AX->Tr AV->List AD->AH->Option A1) E k x tm ds h
noncomputable def iw(E:Env)(f:AF)(h:AH):Option A1:=
 match f with
 |⟨x,tm,todo,ds,ret⟩=>cond ret (Kz E x tm todo ds h) (match todo with
  |[]=>kX x tm [] ds h none
  |i::k=>RQ E i k x tm ds h)
noncomputable def setArgs:List AV->Nat->Tr AV->Tr AV
 |[],_,t=>t
 |a::l,i,t=>setArgs l (Nat.succ i) (t.set i a)
noncomputable def iW(E:Env)(g:FuncId)(args:List AV)(deferred:Bool):Option AF:=
 match E.ft.get g with
 |some ⟨some c,n,_,_⟩=>cond (Nat.ble args.length n) (some ⟨⟨g,deferred,none,n⟩,setArgs args 0 .e,[.code c],[],false⟩) none
 |_=>none
noncomputable def Q0:List (Nat×AV)->Nat->Tr AV->Tr AV
 |[],_,t=>t
 |p::l,n,t=>Q0 l n (t.set p.1 (cond (Nat.blt p.1 n) p.2 gH))
noncomputable def qb(h:AH)(id:Nat)(args:List AV):Option AF:=
 match h.obj id with
 | .loop _ _ fn nt tm ps a b _=>
   cond (Nat.beq args.length ps.length) (some ⟨⟨fn,false,some id,nt⟩,Q0 (ps.zip args) nt tm,[.code a,.beginRound,.code b],[],false⟩) none
 |_=>none
mutual
def AV.beq:AV->AV->Bool
 | .any,.any=>true
 | .one,.one=>true
 | .bool a,.bool b=>a==b
 | .int k a,.int j b=>k==j&&a==b
 | .str a,.str b=>a==b
 | .nQ,.nQ=>true
 | .ptr a b,.ptr c d=>Nat.beq a c&&Nat.beq b d
 | .aM,.aM=>true
 | .emp,.emp=>true
 | .aO a n c,.aO b m d=>decide (a=b)&&(Nat.beq n m&&Nat.beq c d)
 | .sl a b c d,.sl x y z u=>Nat.beq a x&&Nat.beq b y&&Nat.beq c z&&d==u
 | .nT,.nT=>true
 | .map a,.map b=>Nat.beq a b
 | .sD,.sD=>true
 | .fn f a b,.fn g c d=>Nat.beq f g&&AV.zn a c&&AV.zn b d
 | .yield a,.yield b=>Nat.beq a b
 | .kH,.kH=>true
 | .iface t a,.iface u b=>Nat.beq t u&&AV.beq a b
 | .agg a,.agg b=>AV.zn a b
 | .bV a,.bV b=>AV.zn a b
 |_,_=>false
def AV.zn:List AV->List AV->Bool
 |[],[]=>true
 |a::l,b::m=>AV.beq a b&&AV.zn l m
 |_,_=>false
end
def AE.zn:List AE->List AE->Bool
 |[],[]=>true
 |a::l,b::m=>AV.beq a.key b.key&&AV.beq a.val b.val&&Nat.beq a.born b.born&&AE.zn l m
 |_,_=>false
def AO.beq:AO->AO->Bool
 | .cells a e g z,.cells b h g' i=>Nat.beq e h&&g==g'&&z==i&&AV.zn a b
 | .map a c,.map b d=>Nat.beq c d&&AE.zn a b
 | .GR a b c d,.GR f b' j k=>a==f&&Nat.beq b b'&&c==j&&Nat.beq d k
 | .sit a b,.sit f b'=>a==f&&Nat.beq b b'
 |_,_=>false
def yU:Tr AO->Tr AO->Tr AO
 | .n l (some a) r,.n c (some b) d=> .n (yU l c) (cond (AO.beq a b) (some a) none) (yU r d)
 | .n l _ r,.n c _ d=> .n (yU l c) none (yU r d)
 |_,_=> .e
noncomputable def AH.meet(a b:AH):AH:=⟨yU a.tr b.tr,max a.nx b.nx,a.df⟩
def sw(a b i:Nat):Nat:=cond (Nat.beq i a) b (cond (Nat.beq i b) a i)
mutual
def AV.sw(a b:Nat):AV->AV
 | .ptr i o=> .ptr (Ev.sw a b i) o
 | .sl i o l c=> .sl (Ev.sw a b i) o l c
 | .map i=> .map (Ev.sw a b i)
 | .yield i=> .yield (Ev.sw a b i)
 | .fn f l m=> .fn f (AV.UY a b l) (AV.UY a b m)
 | .iface t v=> .iface t (AV.sw a b v)
 | .agg l=> .agg (AV.UY a b l)
 | .bV l=> .bV (AV.UY a b l)
 |v=>v
def AV.UY(a b:Nat):List AV->List AV
 |[]=>[]
 |v::l=>AV.sw a b v::AV.UY a b l
end
def wX{α:Type}(f:α->α):Tr α->Tr α
 | .e=> .e
 | .n l v r=> .n (wX f l) (match v with |some x=>some (f x)|none=>none) (wX f r)
def AO.sw(a b:Nat):AO->AO
 | .dead=> .dead
 | .cells vs e g z=> .cells (AV.UY a b vs) e g z
 | .map es c=> .map (es.map λe=>⟨e.key.sw a b,e.val.sw a b,e.born⟩) c
 | .GR m s l p=> .GR (match m with |some i=>some (Ev.sw a b i)|none=>none) s l p
 | .sit s p=> .sit s p
 | .loop st p fn nt tm ps x y d=> .loop st p fn nt (wX (AV.sw a b) tm) ps x y (Ev.sw a b d)
 | .rz z=> .rz z
noncomputable def Zd(t:Tr AO)(i:Nat):AO:=match t.get i with |some o=>o|none=> .dead
noncomputable def swT(a b:Nat)(t:Tr AO):Tr AO:=(t.set a (Zd t b)).set b (Zd t a)
noncomputable def AH.sw(a b:Nat)(h:AH):AH:=match h with |⟨tr,nx,df⟩=>⟨swT a b (wX (AO.sw a b) tr),nx,df⟩
mutual
def MK:AV->AV->List (Nat×Nat)
 | .ptr i _,.ptr j _| .sl i _ _ _,.sl j _ _ _| .map i,.map j| .yield i,.yield j=>[(i,j)]
 | .fn _ a b,.fn _ c d=>ML a c++ML b d
 | .iface _ a,.iface _ b=>MK a b
 | .agg a,.agg b| .bV a,.bV b=>ML a b
 |_,_=>[]
def ML:List AV->List AV->List (Nat×Nat)
 |a::l,b::m=>MK a b++ML l m
 |_,_=>[]
end
def ac5:AO->AO->List (Nat×Nat)
 | .cells a _ _ _,.cells b _ _ _=>ML a b
 | .map a _,.map b _=>(a.zip b).flatMap λp=>MK p.1.key p.2.key++MK p.1.val p.2.val
 |_,_=>[]
noncomputable def V4(t1 t2:Tr AO)(n0:Nat):Nat->List (Nat×Nat)->Tr Nat->Option (Nat×Nat)
 |0,_,_=>none
 |_,[],_=>none
 |n+1,p::l,a=>cond (Nat.beq p.1 p.2)
  (match a.get p.1 with
   |some _=>V4 t1 t2 n0 n l a
   |none=>match t1.get p.1,t2.get p.1 with
    |some b,some o2=>V4 t1 t2 n0 n (ac5 b o2++l) (a.set p.1 0)
    |_,_=>V4 t1 t2 n0 n l (a.set p.1 0))
  (cond (Nat.ble n0 p.1&&Nat.ble n0 p.2) (some p) (V4 t1 t2 n0 n l a))
noncomputable def uG(n0:Nat)(v:AV)(h:AH):Nat->AV×AH->AV×AH
 |0,q=>q
 |n+1,q=>match V4 h.tr q.2.tr n0 100000 (MK v q.1) .e with
  |some p=>cond (Nat.ble n0 p.1&&Nat.ble n0 p.2&&Nat.blt p.1 q.2.nx&&Nat.blt p.2 q.2.nx&&Nat.ble q.2.nx OLD) (uG n0 v h n (q.1.sw p.1 p.2,q.2.sw p.1 p.2)) q
  |none=>q
noncomputable def xL(r:AF->AH->Option (AV×AH)):AV->AH->List (AF×AH)->Option (AV×AH)
 |v,h,[]=>some (v,h)
 |v,h,p::l=>match r p.1 p.2 with
  |some a=>(match uG p.2.nx v h 12 a with
   |q=>cond (AV.beq v q.1&&Nat.beq h.df q.2.df) (xL r v (h.meet q.2) l) none)
  |none=>none
mutual
def AV.ids:AV->List Nat
 | .ptr i _| .sl i _ _ _| .map i| .yield i=>[i]
 | .fn _ a b=>AV.Ug a++AV.Ug b
 | .iface _ v=>AV.ids v
 | .agg l| .bV l=>AV.Ug l
 |_=>[]
def AV.Ug:List AV->List Nat
 |[]=>[]
 |a::l=>AV.ids a++AV.Ug l
end
def AO.ids:AO->List Nat
 | .cells vs _ _ _=>AV.Ug vs
 | .map es _=>es.flatMap λe=>AV.ids e.key++AV.ids e.val
 | .GR (some m) _ _ _=>[m]
 |_=>[]
noncomputable def reach(t:Tr AO):Nat->List Nat->Tr AO->Tr AO
 |0,_,acc=>acc
 |_,[],acc=>acc
 |n+1,i::l,acc=>match acc.get i with
  |some _=>reach t n l acc
  |none=>match t.get i with
   |some o=>reach t n (o.ids++l) (acc.set i o)
   |none=>reach t n l acc
noncomputable def AH.sub(h:AH)(args:List AV):AH:=⟨reach h.tr 100000 (AV.Ug args) .e,h.nx,h.df⟩
def vC:Tr AO->Tr AO->Tr AO->Tr AO
 | .n l v r,.n pl d pr,.n b a c=> .n (vC l pl b) (match d with |some _=>a|none=>match a with |some x=>some x|none=>v) (vC r pr c)
 | .n l v r,.e,.n b a c=> .n (vC l .e b) (match a with |some x=>some x|none=>v) (vC r .e c)
 |h,.e,.e=>h
 | .e,_,t=>t
 |_,_,.e=> .e
noncomputable def AH.over(h p h':AH):AH:=⟨vC h.tr p.tr h'.tr,h'.nx,h'.df⟩
def kI:Op->Bool
 | .alloc _| .box .. | .buildSlice .. | .makeMap .. | .makeSlice .. =>true
 |_=>false
def oD:Op->Bool
 | .load .. | .lookup .. | .entry _| .call _=>true
 |_=>false
noncomputable def wake(m:Nat):List (Nat×Nat×AO)->AH->AH×List (Nat×Nat×AO)
 |[],h=>(h,[])
 |p::l,h=>match wake m l h with
  |(h',a)=>cond (m.testBit p.1) (h'.put p.2.1 p.2.2,a) (h',p::a)
structure DQ where
 op:Op
 i:Nat
 tm:Tr AV
 v:AV
noncomputable def BM(E:Env)(q:DQ)(h:AH):Bool:=match fA q.op E q.tm h with |some v=>AV.beq v q.v|none=>false
noncomputable def r9(E:Env)(b:Array Nat)(q:DQ):List (Nat×AH)->Bool
 |[]=>true
 |p::l=>cond ((b.getD p.1 0).testBit q.i||l.any λx=>(b.getD q.i 0).testBit x.1) (r9 E b q l) (BM E q p.2&&r9 E b q l)
noncomputable def qE(E:Env)(b:Array Nat)(a:List (Nat×AH))(h0:AH)(q:DQ):Bool:=
 cond (a.any λp=>(b.getD q.i 0).testBit p.1) true (BM E q h0)&&r9 E b q a
def oK(b:Array Nat):List (Nat×AH)->Bool
 |[]|[_]=>true
 |p::q::l=>(b.getD q.1 0).testBit p.1&&oK b (q::l)
noncomputable def oW:List (Nat×Nat×AO)->AH->AH
 |[],h=>h
 |p::l,h=>oW l (h.put p.2.1 p.2.2)
def yu(a:List Oper)(b:Array Nat)(all:Array Oper):Bool:=
 (a.zipIdx.all λp=>p.1.after.toList.all (λe=> !Region.binds .any e||Nat.blt e.on p.2)&&(match p.1.dst with |none=>true|some d=>Nat.blt d 1000000))&&
 (a.zipIdx.all λp=>a.zipIdx.all λq=>Nat.beq p.2 q.2||(match q.1.dst with
  |none=>true
  |some d=> !((p.1.dst==some d)||(p.1.looksAt all).contains d)||(b.getD p.2 0).testBit q.2||(b.getD q.2 0).testBit p.2))
abbrev mV:=AF->AH->Option (AV×AH)
noncomputable def Au(E:Env)(r:mV)(g:FuncId)(args:List AV)(d:Bool)(h:AH):Option (AV×AH):=
 match iW E g args d with
 |none=>none
 |some f=>cond (E.small.any (Nat.beq g))
  (match r f (h.sub args)with
   |some p=>some (p.1,h.over (h.sub args) p.2)
   |none=>none)
  (r f h)
structure yj where
 call:FuncId->List AV->AH->Option (AV×AH)
 round:Nat->List AV->AH->Option (AV×AH)
noncomputable def outs(E:Env)(r:mV):yj:=
 ⟨λg args h=>Au E r g args false h,λl args h=>match qb h l args with
  |some g=>r g h
  |none=>none⟩
noncomputable def vE(E:Env)(r:yj)(h:AH):Option OR->Option (AV×AH)
 |some (.val v h')=>some (v,h')
 |some (.call g args)=>(match E.ft.get g with
  |some ⟨some _,_,_,_⟩=>r.call g args h
  |some ⟨none,_,_,e⟩=>(match Lm e args h with
   |some (.val v h')=>some (v,h')
   |_=>none)
  |none=>none)
 |some (.yield l args)=>r.round l args h
 |_=>none
noncomputable def wQ(E:Env)(r:Nat->yj)(x:AX)(b:Array Nat)(a:Array Oper)(h0:AH):List Oper->Nat->Tr AV->List DQ->List (Nat×AH)->List (Nat×Nat×AO)->AH->Option (Tr AV×AH)
 |[],_,tm,c,d,ps,h=>cond (oK b d.reverse&&c.all (qE E b d.reverse h0)) (some (tm,oW ps h)) none
 |o::os,i,tm,c,d,ps,h=>match eX o a tm with
  |none=>none
  |some false=>wQ E r x b a h0 os (Nat.succ i) (fin x o.dst gH tm) c d ps h
  |some true=>cond (kI o.op)
   (match fV o.op E tm h with
    |some (.val v h')=>cond (Nat.blt h.nx 1000000) (wQ E r x b a h0 os (Nat.succ i) (fin x o.dst v tm) c d ((i,h.nx,h'.obj h.nx)::ps) ⟨h.tr,h'.nx,h'.df⟩) none
    |_=>none)
   (match fA o.op E tm h with
    |some v=>wQ E r x b a h0 os (Nat.succ i) (fin x o.dst v tm) (cond (oD o.op) (⟨o.op,i,tm,v⟩::c) c) d ps h
    |none=>(match wake (b.getD i 0) ps h with
     |(h,ps)=>(match vE E (r i) h (fV o.op E tm h)with
      |some p=>wQ E r x b a h0 os (Nat.succ i) (fin x o.dst p.1 tm) c ((i,p.2)::d) ps p.2
      |none=>none)))
noncomputable def vZ(c:AF×Option Tmp)(v:AV):AF:=match c with |(⟨x,tm,td,ds,_⟩,d)=>⟨x,fin x d v tm,td,ds,false⟩
noncomputable def Cc(E:Env)(r:mV)(a:AF->List (AF×Option Tmp)->AH->Option (AV×AH))(k:List (AF×Option Tmp)):Option A1->Option (AV×AH)
 |some (.go f h)=>a f k h
 |some (.ret v h)=>(match k with
  |[]=>some (v,h)
  |c::b=>a (vZ c v) b h)
 |some (.call f d g args h)=>cond (E.inl.any (Nat.beq g))
  (match iW E g args false with
  |some e=>a e ((f,d)::k) h
  |none=>none)
  (match Au E r g args false h with
  |some p=>a (vZ (f,d) p.1) k p.2
  |none=>none)
 |some (.round f d l args h)=>(match qb h l args with
  |some g=>(match r g h with
   |some p=>a (vZ (f,d) p.1) k p.2
   |none=>none)
  |none=>none)
 |some (.alts (p::l))=>(match a p.1 k p.2 with
  |some q=>xL (λf h=>a f k h) q.1 q.2 l
  |none=>none)
 |_=>none
noncomputable def runK(E:Env)(r:mV)(n:Nat):AF->List (AF×Option Tmp)->AH->Option (AV×AH):=
 @Nat.rec (λ_=>AF->List (AF×Option Tmp)->AH->Option (AV×AH)) (λ_ _ _=>none) (λ_ a f k h=>Cc E r a k (iw E f h)) n
noncomputable def MB(E:Env)(r:mV)(g:FuncId)(args:List AV)(h:AH):Option (AV×AH):=
 cond (E.inl.any (Nat.beq g)) (match iW E g args false with |some f=>runK E r 100000 f [] h|none=>none) (Au E r g args false h)
noncomputable def vw(E:Env)(r:mV):Option A1->Option (AV×AH)
 |some (.go f h)=>r f h
 |some (.ret v h)=>some (v,h)
 |some (.call ⟨x,tm,td,ds,_⟩ d g args h)=>(match MB E r g args h with
  |some p=>r ⟨x,fin x d p.1 tm,td,ds,false⟩ p.2
  |none=>none)
 |some (.dcall f g args h)=>(match Au E r g args true h with
  |some p=>r f p.2
  |none=>none)
 |some (.round ⟨x,tm,td,ds,_⟩ d l args h)=>(match qb h l args with
  |some g=>(match r g h with
   |some p=>r ⟨x,fin x d p.1 tm,td,ds,false⟩ p.2
   |none=>none)
  |none=>none)
 |some (.drawn x tm a k ds h)=>cond (yu a.toList (Region.before a) a) (match wQ E (λ_=>outs E r) x (Region.before a) a h a.toList 0 tm [] [] [] h with
  |some p=>r ⟨x,p.1,k,ds,false⟩ p.2
  |none=>none) none
 |some (.alts (p::l))=>(match r p.1 p.2 with
  |some q=>xL r q.1 q.2 l
  |none=>none)
 |_=>none
noncomputable def qW(E:Env)(n:Nat):mV:=
 @Nat.rec (λ_=>mV) (λ_ _=>none) (λ_ r f h=>vw E r (iw E f h)) n
section
variable{i j:Nat}
section
variable{Z:Type}
theorem Tr.dN(i:Nat):(Tr.e:Tr Z).get i=none:=rfl
theorem Tr.jh(l:Tr Z)(v:Option Z)(r:Tr Z)(i:Nat):
 (Tr.n l v r).get i=if i=0 then v else if i % 2=1 then l.get (i / 2)else r.get (i / 2 - 1):=by
 show @Bool.rec (λ_=>Option Z) (@Bool.rec (λ_=>Option Z) (r.get (i / 2 - 1)) (l.get (i / 2)) (Nat.beq (i % 2) 1)) v (Nat.beq i 0)=_;by_cases h:i=0
 .subst h;rfl
 .have h1:Nat.beq i 0=false:=by cases a:Nat.beq i 0 with |false=>rfl|true=>exact aP (ak a) h
  rw[h1,au h];by_cases h':i % 2=1
  .have:Nat.beq (i % 2) 1=true:=by rw[h'];rfl
   rw[this,aH h']
  .have:Nat.beq (i % 2) 1=false:=by cases a:Nat.beq (i % 2) 1 with |false=>rfl|true=>exact aP (ak a) h'
   rw[this,au h']
theorem Tr.aa0(x:Z)(t:Tr Z)(i:Nat):Tr.Aq x 0 t i= .e:=rfl
theorem Tr.Vs(x:Z)(f i:Nat):Tr.Aq x (f+1) .e i=if i=0 then .n .e (some x) .e else if i % 2=1 then .n (Tr.Aq x f .e (i / 2)) none .e else .n .e none (Tr.Aq x f .e (i / 2 - 1)):=by
 show @Bool.rec (λ_=>Tr Z) (@Bool.rec (λ_=>Tr Z) (.n .e none (Tr.Aq x f .e (i / 2 - 1))) (.n (Tr.Aq x f .e (i / 2)) none .e) (Nat.beq (i % 2) 1)) (.n .e (some x) .e) (Nat.beq i 0)=_;by_cases h:i=0
 .subst h;rfl
 .have h1:Nat.beq i 0=false:=by cases a:Nat.beq i 0 with |false=>rfl|true=>exact aP (ak a) h
  rw[h1,au h];by_cases h':i % 2=1
  .have:Nat.beq (i % 2) 1=true:=by rw[h'];rfl
   rw[this,aH h']
  .have:Nat.beq (i % 2) 1=false:=by cases a:Nat.beq (i % 2) 1 with |false=>rfl|true=>exact aP (ak a) h'
   rw[this,au h']
theorem Tr.Vr(x:Z)(f:Nat)(l:Tr Z)(v:Option Z)(r:Tr Z)(i:Nat):
 Tr.Aq x (f+1) (.n l v r) i=if i=0 then .n l (some x) r else if i % 2=1 then .n (Tr.Aq x f l (i / 2)) v r else .n l v (Tr.Aq x f r (i / 2 - 1)):=by
 show @Bool.rec (λ_=>Tr Z) (@Bool.rec (λ_=>Tr Z) (.n l v (Tr.Aq x f r (i / 2 - 1))) (.n (Tr.Aq x f l (i / 2)) v r) (Nat.beq (i % 2) 1)) (.n l (some x) r) (Nat.beq i 0)=_;by_cases h:i=0
 .subst h;rfl
 .have h1:Nat.beq i 0=false:=by cases a:Nat.beq i 0 with |false=>rfl|true=>exact aP (ak a) h
  rw[h1,au h];by_cases h':i % 2=1
  .have:Nat.beq (i % 2) 1=true:=by rw[h'];rfl
   rw[this,aH h']
  .have:Nat.beq (i % 2) 1=false:=by cases a:Nat.beq (i % 2) 1 with |false=>rfl|true=>exact aP (ak a) h'
   rw[this,au h']
theorem Tr.Wv(x y:Z):∀(f:Nat) (t:Tr Z) (i j:Nat),(Tr.Aq x f t i).get j=some y->(j=i∧y=x)∨(j≠i∧t.get j=some y):=by
 intro f;induction f with
 |zero=>intro t i j h;rw[Tr.aa0,Tr.dN]at h;cases h
 |succ f d=>
  intro t i j h;cases t with
  |e=>
   rw[Tr.Vs]at h;by_cases hi:i=0
   .rw[aH hi,Tr.jh]at h
    by_cases hj:j=0
    .rw[aH hj]at h;exact .inl ⟨by omega,(aI h).symm⟩
    .rw[au hj]at h;split at h<;>(rw[Tr.dN]at h;cases h)
   .rw[au hi]at h
    by_cases c:i % 2=1
    .rw[aH c,Tr.jh]at h
     by_cases hj:j=0
     .rw[aH hj]at h;cases h
     .rw[au hj]at h
      by_cases a:j % 2=1
      .rw[aH a]at h
       rcases d _ _ _ h with⟨h1,b⟩|⟨_,b⟩
       .exact .inl ⟨by omega,b⟩
       .rw[Tr.dN]at b;cases b
      .rw[au a,Tr.dN]at h;cases h
    .rw[au c,Tr.jh]at h
     by_cases hj:j=0
     .rw[aH hj]at h;cases h
     .rw[au hj]at h
      by_cases a:j % 2=1
      .rw[aH a,Tr.dN]at h;cases h
      .rw[au a]at h
       rcases d _ _ _ h with⟨h1,b⟩|⟨_,b⟩
       .exact .inl ⟨by omega,b⟩
       .rw[Tr.dN]at b;cases b
  |n l v r=>
   rw[Tr.Vr]at h;rw[Tr.jh];by_cases hi:i=0
   .rw[aH hi,Tr.jh]at h
    by_cases hj:j=0
    .rw[aH hj]at h;exact .inl ⟨by omega,(aI h).symm⟩
    .rw[au hj]at h ⊢;exact .inr ⟨by omega,h⟩
   .rw[au hi]at h
    by_cases c:i % 2=1
    .rw[aH c,Tr.jh]at h
     by_cases hj:j=0
     .rw[aH hj]at h ⊢;exact .inr ⟨by omega,h⟩
     .rw[au hj]at h ⊢
      by_cases a:j % 2=1
      .rw[aH a]at h ⊢
       rcases d _ _ _ h with⟨h1,b⟩|⟨h1,b⟩
       .exact .inl ⟨by omega,b⟩
       .exact .inr ⟨by intro e;exact h1 (by rw[e]),b⟩
      .rw[au a]at h ⊢;exact .inr ⟨by intro e;rw[e]at a;exact a c,h⟩
    .rw[au c,Tr.jh]at h
     by_cases hj:j=0
     .rw[aH hj]at h ⊢;exact .inr ⟨by omega,h⟩
     .rw[au hj]at h ⊢
      by_cases a:j % 2=1
      .rw[aH a]at h ⊢;exact .inr ⟨by intro e;rw[e]at a;exact c a,h⟩
      .rw[au a]at h ⊢
       rcases d _ _ _ h with⟨h1,b⟩|⟨h1,b⟩
       .exact .inl ⟨by omega,b⟩
       .exact .inr ⟨by intro e;exact h1 (by rw[e]),b⟩
theorem Tr.pU{x y:Z}{t:Tr Z}(h:(t.set i x).get j=some y):(j=i∧y=x)∨(j≠i∧t.get j=some y):=Tr.Wv x y _ t i j h
theorem Tr.NI(x:Z):∀(f:Nat) (t:Tr Z) (i j:Nat),i+1<2 ^ f->(Tr.Aq x f t i).get j=if j=i then some x else t.get j:=by
 intro f;induction f with
 |zero=>intro t i j h;simp at h
 |succ f d=>
  intro t i j h;rw[Nat.pow_succ]at h;have key:∀(l:Tr Z) (v:Option Z) (r:Tr Z),(∀k,l.get k=none∨True)->(if i=0 then Tr.n l (some x) r else if i % 2=1 then Tr.n (Tr.Aq x f l (i / 2)) v r else Tr.n l v (Tr.Aq x f r (i / 2 - 1))).get j=if j=i then some x else(Tr.n l v r).get j:=by
   intro l v r _;by_cases hi:i=0
   .subst hi
    rw[aH rfl,Tr.jh,Tr.jh];by_cases hj:j=0
    .rw[aH hj,aH hj]
    .rw[au hj,au hj,au hj]
   .rw[au hi]
    by_cases c:i % 2=1
    .rw[aH c,Tr.jh,Tr.jh]
     by_cases hj:j=0
     .rw[aH hj,au (by omega),aH hj]
     .rw[au hj,au hj]
      by_cases a:j % 2=1
      .rw[aH a,aH a,d _ _ _ (by omega)]
       by_cases b:j=i
       .rw[aH (by rw[b]),aH b]
       .rw[au (by omega),au b]
      .rw[au a,au a,au (by intro e;rw[e]at a;exact a c)]
    .rw[au c,Tr.jh,Tr.jh]
     by_cases hj:j=0
     .rw[aH hj,au (by omega),aH hj]
     .rw[au hj,au hj]
      by_cases a:j % 2=1
      .rw[aH a,aH a,au (by intro e;rw[e]at a;exact c a)]
      .rw[au a,au a,d _ _ _ (by omega)]
       by_cases b:j=i
       .rw[aH (by rw[b]),aH b]
       .rw[au (by omega),au b]
  cases t with
  |e=>
   have:=key .e none .e (λ_=> .inr trivial);rw[Tr.Vs,Tr.dN];have g:(Tr.n (α:=Z) .e none .e).get j=none:=by rw[Tr.jh,Tr.dN,Tr.dN];split<;>(try split)<;>rfl
   rw[g]at this;exact this
  |n l v r=>rw[Tr.Vr];exact key l v r (λ_=> .inr trivial)
theorem Tr.BA(t:Tr Z)(i j:Nat)(x:Z):(t.set i x).get j=if j=i then some x else t.get j:=
 Tr.NI x _ t i j Nat.lt_log2_self
theorem Tr.Bz(t:Tr Z)(x:Z)(h:j≠i):(t.set i x).get j=t.get j:=by rw[Tr.BA,au h]
end
end
abbrev Nm:=Nat->Option (Nat×Nat)
mutual
def RV(ι:Nm):AV->Value->Prop
 | .any,_=>True
 | .one,v=>Vv v=true
 | .bool b,v=>v= .bool b
 | .int k x,v=>v= .int k x
 | .str s,v=>v= .string ⟨s.toArray⟩
 | .nQ,v=>v= .pointer none
 | .ptr i o,v=>∃p,ι i=some p∧v= .pointer (some ⟨p.1,o,none⟩)
 | .aM,v=>v= .slice none 0 0
 | .emp,v=>∃a c,v= .slice a 0 c
 | .sl i o l c,v=>∃p,ι i=some p∧∃cap,v= .slice (some ⟨p.1,o,none⟩) l cap∧l<=cap∧(∀k,c=some k->cap=k)∧(c=none->o=0->cap<=p.2)
 | .aO a n c,v=>∃s:Option Nat,v= .slice (a.map λp=>⟨p.1,p.2,s⟩) n c∧n<=c∧(a=none->n=0∧c=0)∧(n≠0->s=none)
 | .nT,v=>v= .map none
 | .map i,v=>∃p,ι i=some p∧v= .map (some p.1)
 | .sD,v=>v= .nilFunc
 | .fn f a b,v=>∃as bs,v= .func (.func f) as bs∧dJ ι a as.toList∧dJ ι b bs.toList
 | .yield i,v=>∃p,ι i=some p∧v= .func (.yield p.1) #[] #[]
 | .kH,v=>v= .nilIface
 | .iface t a,v=>∃x,v= .iface t x∧RV ι a x
 | .agg l,v=>∃cs,v= .agg cs∧dJ ι l cs.toList
 | .bV l,v=>∃cs,v= .tuple cs∧dJ ι l cs.toList
def dJ(ι:Nm):List AV->List Value->Prop
 |[],vs=>vs=[]
 |a::l,vs=>∃v r,vs=v::r∧RV ι a v∧dJ ι l r
end
theorem bS{ι:Nm}:dJ ι [] []:=by unfold dJ;rfl
theorem bQ{ι:Nm}{a:AV}{v:Value}{l:List AV}{r:List Value}(h:RV ι a v)(h':dJ ι l r):dJ ι (a::l) (v::r):=by
 unfold dJ;exact⟨v,r,rfl,h,h'⟩
theorem bJ{ι:Nm}{vs:List Value}(h:dJ ι [] vs):vs=[]:=by unfold dJ at h;exact h
theorem aX{ι:Nm}{a:AV}{l:List AV}{vs:List Value}(h:dJ ι (a::l) vs):∃v r,vs=v::r∧RV ι a v∧dJ ι l r:=by
 unfold dJ at h;exact h
def Ext(ι ι':Nm):Prop:=∀i p,ι i=some p->ι' i=some p
theorem Ext.refl(ι:Nm):Ext ι ι:=λ_ _ h=>h
theorem Ext.trans{ι ι' a:Nm}(h:Ext ι ι')(h':Ext ι' a):Ext ι a:=λi p hi=>h' i p (h i p hi)
mutual
theorem RV.mono{ι ι':Nm}(d:Ext ι ι'):∀{a:AV} {v:Value},RV ι a v->RV ι' a v
 | .any,_,_=>by unfold RV;trivial
 | .one,_,h| .bool _,_,h| .int _ _,_,h| .str _,_,h| .nQ,_,h| .aM,_,h| .emp,_,h| .nT,_,h| .sD,_,h| .kH,_,h| .aO _ _ _,_,h=>by
   unfold RV at h ⊢;exact h
 | .ptr i o,v,h=>by
   unfold RV at h ⊢;obtain⟨p,hi,e⟩:=h;exact⟨p,d _ _ hi,e⟩
 | .sl i o l c,v,h=>by
   unfold RV at h ⊢;obtain⟨p,hi,e⟩:=h;exact⟨p,d _ _ hi,e⟩
 | .map i,v,h=>by
   unfold RV at h ⊢;obtain⟨p,hi,e⟩:=h;exact⟨p,d _ _ hi,e⟩
 | .yield i,v,h=>by
   unfold RV at h ⊢;obtain⟨p,hi,e⟩:=h;exact⟨p,d _ _ hi,e⟩
 | .fn f a b,v,h=>by
   unfold RV at h ⊢;obtain⟨as,bs,e,h1,g⟩:=h;exact⟨as,bs,e,dJ.mono d h1,dJ.mono d g⟩
 | .iface t a,v,h=>by
   unfold RV at h ⊢;obtain⟨x,e,h1⟩:=h;exact⟨x,e,RV.mono d h1⟩
 | .agg l,v,h=>by
   unfold RV at h ⊢;obtain⟨x,e,h1⟩:=h;exact⟨x,e,dJ.mono d h1⟩
 | .bV l,v,h=>by
   unfold RV at h ⊢;obtain⟨x,e,h1⟩:=h;exact⟨x,e,dJ.mono d h1⟩
theorem dJ.mono{ι ι':Nm}(b:Ext ι ι'):∀{l:List AV} {vs:List Value},dJ ι l vs->dJ ι' l vs
 |[],_,h=>by rw[bJ h];exact bS
 |a::l,_,h=>by
  obtain⟨v,r,rfl,h1,c⟩:=aX h;exact bQ (RV.mono b h1) (dJ.mono b c)
end
section
variable{ι:Nm}
theorem dJ.length{l:List AV}{vs:List Value}(h:dJ ι l vs):l.length=vs.length:=by
 induction l generalizing vs with
 |nil=>rw[bJ h];rfl
 |cons a l b=>obtain⟨v,r,rfl,_,c⟩:=aX h;simp[b c]
theorem dJ.append{l m:List AV}{vs b:List Value}(h:dJ ι l vs)(h':dJ ι m b):dJ ι (l++m) (vs++b):=by
 induction l generalizing vs with
 |nil=>rw[bJ h];exact h'
 |cons a l c=>obtain⟨v,r,rfl,h1,d⟩:=aX h;exact bQ h1 (c d)
theorem dJ.get{l:List AV}{vs:List Value}(h:dJ ι l vs){i:Nat}{a:AV}(hi:l[i]? =some a):∃v,vs[i]? =some v∧RV ι a v:=by
 induction l generalizing vs i with
 |nil=>simp at hi
 |cons b l c=>
  obtain⟨v,r,rfl,h1,d⟩:=aX h;cases i with
  |zero=>simp at hi;subst hi;exact⟨v,rfl,h1⟩
  |succ i=>simp at hi;simpa using c d hi
theorem dJ.yT{l:List AV}{vs:List Value}(c:l.length=vs.length)(h:∀(i:Nat) (a:AV) (v:Value),l[i]? =some a->vs[i]? =some v->RV ι a v):dJ ι l vs:=by
 induction l generalizing vs with
 |nil=>cases vs with
  |nil=>exact bS
  |cons _ _=>simp at c
 |cons b l d=>cases vs with
  |nil=>simp at c
  |cons v r=>exact bQ (h 0 b v rfl rfl) (d (by simpa using c) λi a x h1 e=>h (i+1) a x (by simpa using h1) (by simpa using e))
theorem dJ.take{l:List AV}{vs:List Value}(h:dJ ι l vs)(k:Nat):dJ ι (l.take k) (vs.take k):=by
 refine dJ.yT (by simp[h.length]) λi a v h1 b=>?_;rw[ig]at h1 b;split at h1
 .rename_i c;rw[aH c]at b
  obtain⟨d,e,r⟩:=h.get h1;rw[e]at b;cases b;exact r
 .cases h1
theorem dJ.drop{l:List AV}{vs:List Value}(h:dJ ι l vs)(k:Nat):dJ ι (l.drop k) (vs.drop k):=by
 refine dJ.yT (by simp[h.length]) λi a v h1 b=>?_;rw[jE]at h1 b;obtain⟨c,e,r⟩:=h.get h1;rw[e]at b;cases b;exact r
theorem dJ.set{l:List AV}{vs:List Value}(h:dJ ι l vs)(k:Nat){a:AV}{v:Value}(f:RV ι a v):dJ ι (l.set k a) (vs.set k v):=by
 refine dJ.yT (by simp[h.length]) λi b u h1 c=>?_;rw[List.getElem?_set]at h1 c;split at h1
 .rename_i d;rw[aH d]at c
  split at h1
  .rename_i g;rw[aH (by rw[← h.length];exact g)]at c
   cases h1;cases c;exact f
  .cases h1
 .rename_i d;rw[au d]at c
  obtain⟨j,e,r⟩:=h.get h1;rw[e]at c;cases c;exact r
theorem dJ.map{α:Type}{l:List α}{f:α->AV}{g:α->Value}(h:∀x,x∈l->RV ι (f x) (g x)):dJ ι (l.map f) (l.map g):=by
 induction l with
 |nil=>exact bS
 |cons a l b=>exact bQ (h a (by simp)) (b λx c=>h x (by simp[c]))
theorem kS:RV ι gH undef:=by unfold gH RV;exact⟨#[],rfl,bS⟩
theorem Ao(v:Value):RV ι (sM v) v:=by
 unfold sM;split
 all_goals first
  |(unfold RV;rfl)
  |(unfold RV;trivial)
  |skip
 .rename_i f a b
  cases c:a.isEmpty<;>cases d:b.isEmpty<;>simp only[Bool.and_self,Bool.and_false,Bool.and_true,bA,bC]<;>first
   |(unfold RV;trivial)
   |(unfold RV
     simp only[Array.isEmpty_iff]at c d;subst c;subst d;exact⟨#[],#[],rfl,bS,bS⟩)
 .rename_i a
  cases c:a.isEmpty
  .simp only[bC];unfold RV;trivial
  .simp only[bA];unfold RV
   simp only[Array.isEmpty_iff]at c;subst c;exact⟨#[],rfl,bS⟩
theorem Z0(v:Value):RV ι (acn v) v:=by
 unfold acn;split
 .rename_i cs
  unfold RV;refine⟨cs,rfl,?_⟩;have:=dJ.map (ι:=ι) (l:=cs.toList) (f:=sM) (g:=id) λx _=>Ao x;simpa using this
 .exact Ao v
theorem Mw{v:Value}(h:Vv v=true):v.cells=#[v]:=by
 cases v<;>first|rfl|cases h
theorem RV.cells{a:AV}{v:Value}(h:RV ι a v)(b:a.isAny=false∨v.cells.size=1):dJ ι a.cells v.cells.toList:=by
 cases a with
 |agg l=>
  unfold RV at h;obtain⟨cs,rfl,h⟩:=h;exact h
 |any=>
  rcases b with b|b
  .cases b
  .show dJ ι [.any] _
   have:∃x,v.cells.toList=[x]:=by
    have c:v.cells.toList.length=1:=by simpa using b
    match v.cells.toList,c with
    |[x],_=>exact⟨x,rfl⟩
   obtain⟨x,d⟩:=this;rw[d];exact bQ (by unfold RV;trivial) bS
 |one=>
  have e:Vv v=true:=by unfold RV at h;exact h
  rw[Mw e];exact bQ h bS
 |_=>
  have f:v.cells=#[v]:=by
   unfold RV at h
   first
    |(obtain rfl:=h;rfl)
    |(obtain⟨_,rfl⟩:=h;rfl)
    |(obtain⟨_,_,rfl⟩:=h;rfl)
    |(obtain⟨_,_,rfl,_⟩:=h;rfl)
    |(obtain⟨_,_,_,rfl,_⟩:=h;rfl)
    |(obtain⟨_,rfl,_⟩:=h;rfl)
    |(obtain⟨rfl,_⟩:=h;rfl)
  rw[f];exact bQ h bS
end
def RT(ι:Nm)(nt:Nat)(tm:Tr AV)(tmps:Array Value):Prop:=tmps.size=nt∧∀t a,tm.get t=some a->RV ι a (tmps.getD t undef)
section
variable{ι:Nm}{Y:Nat}{X:Tr AV}{Z:Array Value}
theorem RT.mono{ι':Nm}(b:Ext ι ι')(h:RT ι Y X Z):RT ι' Y X Z:=⟨h.1,λt a c=>(h.2 t a c).mono b⟩
theorem RT.ev(h:RT ι Y X Z)(fr:Frame)(b:fr.tmps=Z)(x:Operand):RV ι (ev X x) (fr.eval x):=by
 cases x with
 |tmp t=>
  show RV ι (match X.get t with |some v=>v|none=> .any) (fr.tmps.getD t undef);rw[b];cases c:X.get t with
  |none=>unfold RV;trivial
  |some a=>exact h.2 t a c
 |const v=>exact Z0 v
 |global g=>unfold RV Ev.ev;trivial
 |func g=>
  show RV ι (.fn g [] []) (.func (.func g) #[] #[]);unfold RV;exact⟨#[],#[],rfl,bS,bS⟩
theorem RT.put(h:RT ι Y X Z){d:Nat}{a:AV}{v:Value}(j:RV ι a v):RT ι Y (X.set d (cond (Nat.blt d Y) a gH)) (Z.setIfInBounds d v):=by
 refine⟨by simpa using h.1,λt b k=>?_⟩;rcases Tr.pU k with⟨rfl,rfl⟩|⟨e,f⟩
 .by_cases c:t<Y
  .have g:Nat.blt t Y=true:=by rw[cO];exact c
   rw[g,bA];have:(Z.setIfInBounds t v).getD t undef=v:=by
    rw[bf,jH (by rw[h.1];exact c)];rfl
   rw[this];exact j
  .have g:Nat.blt t Y=false:=by cases i:Nat.blt t Y with |false=>rfl|true=>rw[cO]at i;exact aP i c
   rw[g,bC];have:(Z.setIfInBounds t v).getD t undef=undef:=by
    rw[bf,Array.getElem?_eq_none (by simp[h.1];omega)];rfl
   rw[this];exact kS
 .have:(Z.setIfInBounds d v).getD t undef=Z.getD t undef:=by
   rw[bf,bf,bI (Ne.symm e)]
  rw[this];exact h.2 t b f
end
section
variable{T el:TypeId}{a:AV}{b hi i lo:Nat}{c:Array Value}{fz p:Nat×Nat}{z:Bool}
structure Ctx where
 P:Program
 W0:World
 fz:Nat->Prop
 lo:Nat
 own:Nat->Prop
 lN:∀b,lo<=b->own b
 peek:Prop
def xE(K:Ctx)(size:Nat)(e:Event):Prop:=
 match e.loc with
 | .cell a=>(¬K.fz a.block∧K.own a.block∨K.peek∧K.fz a.block∧e.write=false)∧a.block<size
 | .obj r=>¬K.fz r∧K.own r∧r<size∧e.sync=false
 | .mark m=>match m with
   | .acquire a| .release a| .releaseMerge a| .read a| .write a=>¬K.fz a.block∧K.own a.block∧a.block<size
   | .disable| .enable=>False
   |_=>True
 |_=>False
theorem xE.mono{K:Ctx}{s d:Nat}(h:s<=d){e:Event}(b:xE K s e):xE K d e:=by
 obtain⟨c,wr,f⟩:=e;cases c with
 |cell a=>exact⟨b.1,by have:=b.2;omega⟩
 |obj r=>exact⟨b.1,b.2.1,by have:=b.2.2.1;omega,b.2.2.2⟩
 |mark m=>cases m<;>first|exact⟨b.1,b.2.1,by have:=b.2.2;omega⟩|exact b|trivial
 |output=>exact b
 |goroutines=>exact b
def vW(ι:Nm):List AE->List MapEntry->Prop
 |[],es=>es=[]
 |a::l,es=>∃e r,es=e::r∧RV ι a.key e.key∧RV ι a.val e.val∧e.born=a.born∧vW ι l r
theorem vW.mono{ι ι':Nm}(b:Ext ι ι'){l:List AE}{es:List MapEntry}(h:vW ι l es):vW ι' l es:=by
 induction l generalizing es with
 |nil=>exact h
 |cons a l c=>
  obtain⟨e,r,rfl,h1,d,f,g⟩:=h;exact⟨e,r,rfl,h1.mono b,d.mono b,f,c g⟩
def AO.live:AO->Prop
 | .dead=>False
 |_=>True
def RO(P:Program)(ι:Nm)(cap:Nat):AO->Obj->Prop
 | .dead,_=>True
 | .cells vs el g fz,ob=>∃(c:Array Value) (lo hi:Nat),ob= .cells c el (lo,hi)∧(∃l1 l2,c.toList=l1++l2∧dJ ι vs l1)∧
  (g=false->c.size=vs.length)∧(g=true->c.size=cap*P.cellsOf el)∧(fz=false->(∀o,o<c.size->¬(lo<=o∧o<hi))∧(g=false->lo=0∧hi=0))
 | .map es ck,ob=>∃e,ob= .map e ck∧vW ι es e.toList
 | .GR m s seen st,ob=>∃b,(∀j,m=some j->∃p,ι j=some p∧b=some p.1)∧(m=none->b=none)∧ob= .mapIter b s seen.toArray st
 | .sit s p,ob=>ob= .stringIter ⟨s.toArray⟩ p
 | .loop st f fn nt tm ps a b d,ob=>∃q,ι d=some q∧∃L:Loop,ob= .loop L∧L.state=st∧L.pending=f∧L.fn=fn∧RT ι nt tm L.tmps∧L.params.toList=ps∧L.assign=a∧L.body=b∧L.defers=q.1
 | .rz z,ob=>ob= .deferred (cond z none (some []))
theorem RO.mono{P:Program}{ι ι':Nm}{cap:Nat}(f:Ext ι ι'){o:AO}{ob:Obj}(h:RO P ι cap o ob):RO P ι' cap o ob:=by
 cases o with
 |dead=>trivial
 |cells vs el g fz=>
  obtain⟨c,lo,k,e,⟨l1,l2,e2,r⟩,h1,i,l⟩:=h;exact⟨c,lo,k,e,⟨l1,l2,e2,r.mono f⟩,h1,i,l⟩
 |map es ck=>obtain⟨n,e,h1⟩:=h;exact⟨n,e,h1.mono f⟩
 |GR m s seen st=>
  obtain⟨b,h1,i,e⟩:=h;exact⟨b,λj hj=>by obtain⟨p,hp,t⟩:=h1 j hj;exact⟨p,f _ _ hp,t⟩,i,e⟩
 |sit s p=>exact h
 |loop st C fn nt tm ps a b d=>
  obtain⟨q,u,L,e,h1,i,l,v,x,y,A,B⟩:=h;exact⟨q,f _ _ u,L,e,h1,i,l,v.mono f,x,y,A,B⟩
 |rz z=>exact h
def dI:Nm:=λi=>if OLD<=i then some (i - OLD,0)else none
theorem wU(b:Nat):dI (OLD+b)=some (b,0):=by
 unfold dI;rw[aH (dZ _ _),dK]
structure Of(K:Ctx)(P:Program)(E:Env):Prop where
 P:K.P=P
 mem:∀b o a,E.old b o=some a->K.peek∧K.fz b∧∃v,K.W0.cell? ⟨b,o,none⟩=some v∧RV dI a v
 pk:E.peek=true->K.peek
structure Sat(K:Ctx)(ι:Nm)(h:AH)(w:World):Prop where
 objs:∀i o,h.tr.get i=some o->o.live->∃p ob,ι i=some p∧¬K.fz p.1∧K.own p.1∧w.heap[p.1]? =some ob∧RO K.P ι p.2 o ob
 inj:∀i j o o' p q,h.tr.get i=some o->h.tr.get j=some o'->o.live->o'.live->ι i=some p->ι j=some q->p.1=q.1->i=j
 lo:K.lo<=w.heap.size
 bs:∀b,K.fz b->b<w.heap.size
 old:∀b,K.fz b->w.heap[b]? =K.W0.heap[b]?
 os:w.os=K.W0.os
 tape:w.tape=K.W0.tape
 output:w.output=K.W0.output
 jU:K.peek->Ext dI ι
structure jI(K:Ctx)(w w':World)(es:List Event):Prop where
 size:w.heap.size<=w'.heap.size
 kept:∀b,b<w.heap.size->¬(¬K.fz b∧K.own b)->w'.heap[b]? =w.heap[b]?
 evs:∀e∈es,xE K w'.heap.size e
theorem AH.wV{h:AH}{o:AO}(e:h.obj i=o)(b:o.live):h.tr.get i=some o:=by
 unfold AH.obj at e;cases a:h.tr.get i with
 |none=>rw[a]at e;subst e;exact b.elim
 |some p=>rw[a]at e;simp at e;rw[e]
section
variable{K:Ctx}{Z:Nm}{h:AH}{w:World}
theorem Sat.at(S:Sat K Z h w){i:Nat}{o:AO}(e:h.obj i=o)(a:o.live):
 ∃p ob,Z i=some p∧¬K.fz p.1∧K.own p.1∧p.1<w.heap.size∧w.heap[p.1]? =some ob∧RO K.P Z p.2 o ob:=by
 obtain⟨p,ob,h1,c,d,b,f⟩:=S.objs i o (AH.wV e a) a;refine⟨p,ob,h1,c,d,?_,b,f⟩;have:=b;rw[aS]at this;exact this.1
theorem cell_of{o:Nat}(a:w.heap[b]? =some (.cells c T fz)):w.cell? ⟨b,o,none⟩=c[o]? :=by
 unfold World.cell?;simp[a]
theorem JH{o:Nat}(a:w.heap[b]? =some (.cells c T (lo,hi))):w.frozen? ⟨b,o,none⟩=(decide (lo<=o)&&decide (o<hi)):=by
 unfold World.frozen?;simp[a]
theorem Sat.cell(S:Sat K Z h w)(hp:Z i=some p){vs:List AV}{g:Bool}(e:h.obj i= .cells vs el g z){o:Nat}(d:vs[o]? =some a):
 ∃v,w.cell? ⟨p.1,o,none⟩=some v∧RV Z a v:=by
 obtain⟨q,ob,b,_,_,_,f,c,lo,hi,rfl,⟨l1,l2,j,k⟩,_⟩:=S.at e trivial;obtain rfl:p=q:=by rw[hp]at b;exact aI b
 obtain⟨v,h1,l⟩:=k.get d;refine⟨v,?_,l⟩;rw[cell_of f,← bq,j,aU]
 .exact h1
 .have:=h1;rw[aJ]at this;exact this.1
theorem Sat.drawn(S:Sat K Z h w)(d:Nat):Sat K Z h { w with drawn:=d }:=
 ⟨S.objs,S.inj,S.lo,S.bs,S.old,S.os,S.tape,S.output,S.jU⟩
end
structure QB(P:Program)(t:TypeId)(ti:TI):Prop where
 info:∃i z,P.info? t=some i∧i.size=ti.size∧i.bytes=ti.bytes∧i.zero=some z∧(∀ι,RV ι ti.zeroV z)∧(∀ι,dJ ι ti.zero z.cells.toList)∧z.cells.size=ti.size∧ti.zero.length=ti.size
 desc:∃d,P.underlying t=some d∧match ti.d,d with
  | .bool,.bool=>True
  | .int k,.int k'=>k=k'
  | .str,.string=>True
  | .ptr e,.pointer e'=>e=e'
  | .slice e,.slice e'=>e=e'
  | .map k e,.map k' e'=>k=k'∧e=e'∧∃kd,P.underlying k=some kd
  | .func,.func _ _ _=>True
  | .iface b,.interface ms=>b=ms.isEmpty
  | .struct fs,.struct gs=>fs.length=gs.size∧∀(i:Nat) (x:Nat×Nat×TypeId) (g:Field),fs[i]? =some x->gs[i]? =some g->x.1=g.offset∧x.2.2=g.type∧∃gi,P.info? g.type=some gi∧gi.size=x.2.1
  | .array n e,.array n' e'=>n=n'∧e=e'
  | .Km,.unsafePointer=>True
  | .tuple,.tuple _=>True
  |_,_=>False
end
section
variable{E:Env}{a:AV}{b i n off:Nat}{l:List AV}{p:Nat×Nat}
structure Fits(P:Program)(E:Env):Prop where
 depth:1<=P.depth
 M7:∀t m g,(t,m,g)∈E.M7->∀(v:Value) (w:World),aj P (method (P.types.size+Made.depth) t v m) w (g,v) w []
 lies:∀el u,(el,u)∈E.lies->liesAt P P.depth el 1 0 u 1=true
 tt:∀t ti,E.tt.get t=some ti->QB P t ti
 flat:∀t ks,(t,ks)∈E.flat->∃gs,P.underlying t=some gs∧∀(x:Array Value) (l:List AV) (ι:Nm) (w:World),dJ ι l x.toList->sJ ks l=true->
  (∀b,aj P (Instr.checkKey b 10000 t (.agg x)) w () w [])∧
  ∀(y:Array Value) (m:List AV) (r:Bool),dJ ι m y.toList->AP l m=some r->
  ∀(o1 o2:Operand),∀op,(op=BinOp.eql∨op=BinOp.neq)->aj P (eqGuard op t o1 o2 (.agg x) (.agg y)) w () w []∧aj P (Op.equal t (.agg x) (.agg y)) w r w []
theorem Fits.uM{P:Program}{E:Env}(F:Fits P E){t:TypeId}{l:List AV}(h:uM E t l=true):
 ∃a,P.underlying t=some a∧∀(x:Array Value) (ι:Nm) (w:World),dJ ι l x.toList->
 (∀b,aj P (Instr.checkKey b 10000 t (.agg x)) w () w [])∧
 ∀(y:Array Value) (m:List AV) (r:Bool),dJ ι m y.toList->AP l m=some r->
 ∀(c o2:Operand),∀op,(op=BinOp.eql∨op=BinOp.neq)->aj P (eqGuard op t c o2 (.agg x) (.agg y)) w () w []∧aj P (Op.equal t (.agg x) (.agg y)) w r w []:=by
 unfold Ev.uM at h;rw[List.any_eq_true]at h;obtain⟨p,hp,h⟩:=h;rw[av]at h;obtain⟨h1,d⟩:=h;obtain⟨f,ks⟩:=p;have e:f=t:=ak h1;subst e;obtain⟨a,g,i⟩:=F.flat _ _ hp;exact⟨a,g,λx ι w j=>i x l ι w j d⟩
section
variable{P:Program}{K:Ctx}{Z:Nm}{h:AH}{w:World}
theorem ng(b o k:Nat):(⟨b,o,none⟩:Addr).add k=⟨b,o+k,none⟩:=by
 unfold Addr.add;split
 .rename_i h;subst h;rfl
 .rfl
theorem uU{t:TypeId}{ti:TI}(H:QB P t ti):aj P (isAgg t) w ti.isAgg w []:=by
 obtain⟨d,b,a⟩:=H.desc;unfold isAgg;refine aj.bind (e1:=[]) (aj.underlying b) ?_;unfold TI.isAgg;cases h1:ti.d<;>rw[h1]at a<;>cases d<;>first
  |exact a.elim
  |exact aj.pure _
theorem dL{t:TypeId}{ti:TI}(H:QB P t ti):aj P (sizeOf t) w ti.size w []:=by
 obtain⟨i,z,hi,a,_⟩:=H.info;rw[← a];exact aj.sizeOf hi
theorem uD{r:List AV}(e:takeN l off n=some r):r=(l.drop off).take n∧r.length=n:=by
 unfold takeN at e;cases a:Nat.beq ((l.drop off).take n).length n with
 |false=>simp only[a,bC]at e;cases e
 |true=>
  simp only[a,bA,bM]at e;exact⟨e.symm,by rw[← e];exact ak a⟩
theorem uV{b off:Nat}:∀(n k:Nat) (acc:Array Value) (vs:List Value),vs.length=n->(∀j v,vs[j]? =some v->w.cell? ⟨b,off+(k+j),none⟩=some v)->
 ∃es,aj P (loadCellsFrom ⟨b,off,none⟩ k n acc) w (acc++vs.toArray) w es∧∀e∈es,∃o,e=⟨.cell ⟨b,o,none⟩,false,false⟩
 |0,k,acc,vs,d,_=>by
  obtain rfl:vs=[]:=bB.1 d;refine⟨[],?_,by simp⟩;unfold loadCellsFrom;simpa using aj.pure acc
 |n+1,k,acc,v::vs,d,f=>by
  have h0:=f 0 v rfl;obtain⟨es,h1,g⟩:=uV n (k+1) (acc.push v) vs (by simpa using d) λj u i=>by
   have:=f (j+1) u (by simpa using i);rw[show off+(k+1+j)=off+(k+(j+1))by omega];exact this
  refine⟨[⟨.cell ⟨b,off+k,none⟩,false,false⟩]++es,?_,?_⟩
  .unfold loadCellsFrom
   refine aj.bind (w1:=w) (a:=v) ?_ ?_
   .rw[ng];exact aj.load h0
   .have:acc++(v::vs).toArray=acc.push v++vs.toArray:=by simp
    rw[this];exact h1
  .intro e c
   rcases bF.1 c with c|c
   .simp at c;subst c;exact⟨off+k,rfl⟩
   .exact g e c
theorem Aa{old:Nat->Nat->Option AV}{b:Nat}:∀(n off:Nat) {r:List AV},iI old b off n=some r->r.length=n∧∀j a,r[j]? =some a->old b (off+j)=some a
 |0,off,r,e=>by cases e;exact⟨rfl,by simp⟩
 |n+1,off,r,e=>by
  unfold iI at e;split at e
  .rename_i v l h1 c
   cases e;obtain⟨k1,d⟩:=Aa n (off+1) c;refine⟨by simp[k1],λj a hj=>?_⟩;cases j with
   |zero=>simp at hj;subst hj;exact h1
   |succ j=>simp at hj;have:=d j a hj;rw[← this];congr 1;omega
  .cases e
theorem Sat.KS(S:Sat K Z h w)(d:Of K P E){o:Nat}(e:E.old b o=some a):∃v,w.cell? ⟨b,o,none⟩=some v∧RV Z a v∧K.peek∧K.fz b:=by
 obtain⟨h1,c,v,f,g⟩:=d.mem b o a e;refine⟨v,?_,g.mono (S.jU h1),h1,c⟩;rw[← f];unfold World.cell?;rw[S.old b c]
theorem Rp(S:Sat K Z h w)(a:K.peek)(hp:Z i=some p)(hi:OLD<=i):p=(i - OLD,0):=by
 have:=S.jU a i (i - OLD,0) (by unfold dI;rw[aH hi]);rw[hp]at this;exact aI this
theorem Sat.jw(S:Sat K Z h w){E:Env}(o:Of K P E){i off n:Nat}{p:Nat×Nat}(hp:Z i=some p){r:List AV}(e:jw E h i off n=some r):
 ∃vs:List Value,vs.length=n∧dJ Z r vs∧(∀j v,vs[j]? =some v->w.cell? ⟨p.1,off+j,none⟩=some v)∧(vs≠[]->(¬K.fz p.1∧K.own p.1∨K.peek∧K.fz p.1)∧p.1<w.heap.size):=by
 unfold Ev.jw at e;cases f:Nat.ble OLD i with
 |true=>
  rw[f,bA]at e;obtain⟨k1,b⟩:=Aa n off e;by_cases k:r=[]
  .subst k
   exact⟨[],by simpa using k1,bS,by simp,λh=>aP rfl h⟩
  have s:K.peek:=by
   match r,b,k with
   |[],_,h=>exact aP rfl h
   |a::l,b,_=>exact(o.mem _ _ _ (b 0 a rfl)).1
  obtain rfl:=Rp S s hp (aF f);have:∀(l:List AV) (off:Nat),(∀j a,l[j]? =some a->E.old (i - OLD) (off+j)=some a)->∃vs:List Value,vs.length=l.length∧dJ Z l vs∧∀j v,vs[j]? =some v->w.cell? ⟨i - OLD,off+j,none⟩=some v:=by
   intro l;induction l with
   |nil=>intro _ _;exact⟨[],rfl,bS,by simp⟩
   |cons a l D=>
    intro off A;obtain⟨v,d,t,_⟩:=S.KS o (A 0 a rfl);obtain⟨vs,x,F,G⟩:=D (off+1) (λj a hj=>by have:=A (j+1) a (by simpa using hj);rw[← this];congr 1;omega);refine⟨v::vs,by simp[x],bQ t F,λj u hj=>?_⟩;cases j with
    |zero=>simp at hj;subst hj;exact d
    |succ j=>simp at hj;have:=G j u hj;rw[← this];congr 2;omega
  obtain⟨vs,d,t,x⟩:=this r off b;refine⟨vs,by rw[d,k1],t,x,λy=>?_⟩
  match r,b,d with
  |[],_,d=>exact aP (bB.1 d) y
  |a::l,b,_=>
   obtain⟨_,_,_,h1,m⟩:=S.KS o (b 0 a rfl);exact⟨.inr ⟨h1,m⟩,S.bs _ m⟩
 |false=>
 rw[f,bC]at e;split at e
 .rename_i vs el g z H
  obtain⟨hr,I⟩:=uD e;obtain⟨q,ob,B,m,J,L,f,c,lo,hi,rfl,⟨l1,l2,M,C⟩,_⟩:=S.at H trivial;obtain rfl:p=q:=by rw[hp]at B;exact aI B
  refine⟨(l1.drop off).take n,?_,?_,?_,λ_=>⟨.inl ⟨m,J⟩,L⟩⟩
  .rw[← I,hr];simp[C.length]
  .rw[hr];exact(C.drop off).take n
  .intro j v hj
   rw[cell_of f,← bq,M];rw[ig]at hj;split at hj
   .rw[jE]at hj
    rw[aU]
    .exact hj
    .rw[aJ]at hj;exact hj.1
   .cases hj
 .cases e
theorem Vd{x:AV}{v:Value}(b:RV Z x v):RV Z (unB x) v:=by
 cases x with
 |aO a n c=>
  cases a with
  |none=>
   unfold RV at b;obtain⟨s,rfl,h1,d,e⟩:=b;obtain⟨rfl,rfl⟩:=d rfl;show RV Z .aM _;unfold RV;rfl
  |some p=>exact b
 |_=>exact b
theorem DK(S:Sat K Z h w)(e:Of K P E){x:AV}{v:Value}(b:RV Z x v):RV Z (l9 E x) v:=by
 cases x with
 |aO a n c=>
  unfold RV at b;obtain⟨s,rfl,h1,f,g⟩:=b;cases a with
  |none=>
   obtain⟨rfl,rfl⟩:=f rfl;show RV Z .aM _;unfold RV;rfl
  |some p=>
   show RV Z (cond E.peek (cond (Nat.beq n 0) .emp (.sl (OLD+p.1) p.2 n (some c))) .any) _;cases hp:E.peek with
   |false=>rw[bC];unfold RV;trivial
   |true=>
    rw[bA];cases n with
    |zero=>
     show RV Z .emp _;unfold RV;exact⟨_,_,rfl⟩
    |succ n=>
    obtain rfl:=g (Nat.succ_ne_zero n);show RV Z (.sl (OLD+p.1) p.2 (n+1) (some c)) _;unfold RV;refine⟨(p.1,0),S.jU (e.pk hp) _ _ (wU _),c,rfl,h1,λk d=>by cases d;rfl,λd=>by cases d⟩
 |_=>exact b
theorem ou(S:Sat K Z h w){E:Env}(f:Of K P E){i off n:Nat}{p:Nat×Nat}(hp:Z i=some p){r:List AV}(e:jw E h i off n=some r):
 ∃(vs:Array Value) (es:List Event),aj P (loadCells ⟨p.1,off,none⟩ n) w vs w es∧dJ Z r vs.toList∧vs.size=n∧∀e∈es,xE K w.heap.size e:=by
 obtain⟨vs,a,d,g,k⟩:=S.jw f hp e;obtain⟨es,hr,l⟩:=uV (P:=P) (w:=w) (b:=p.1) (off:=off) n 0 #[] vs a λj v hj=>by simpa using g j v hj
 cases vs with
 |nil=>
  simp at a;subst a;refine⟨#[],[],?_,by simpa using d,rfl,by simp⟩;unfold loadCells loadCellsFrom;exact aj.pure _
 |cons v0 c=>
 obtain⟨m,q⟩:=k (by simp);refine⟨(v0::c).toArray,es,by unfold loadCells;simpa using hr,by simpa using d,by simpa using a,λe s=>?_⟩;obtain⟨o,rfl⟩:=l e s;exact⟨m.imp id λh=>⟨h.1,h.2,rfl⟩,q⟩
theorem FU(S:Sat K Z h w){i off n:Nat}{p:Nat×Nat}(hp:Z i=some p){vs:List AV}{el:TypeId}{g z:Bool}(m:h.obj i= .cells vs el g z){r:List AV}(e:takeN vs off n=some r):
 ∃(vs:Array Value) (es:List Event),aj P (loadCells ⟨p.1,off,none⟩ n) w vs w es∧dJ Z r vs.toList∧vs.size=n∧∀e∈es,xE K w.heap.size e:=by
 obtain⟨hr,s⟩:=uD e;obtain⟨q,ob,f,t,u,x,y,c,lo,hi,rfl,⟨l1,l2,A,k⟩,_⟩:=S.at m trivial;obtain rfl:p=q:=by rw[hp]at f;exact aI f
 have l:((l1.drop off).take n).length=n:=by rw[← s,hr];simp[k.length]
 have a:∀j v,((l1.drop off).take n)[j]? =some v->w.cell? ⟨p.1,off+j,none⟩=some v:=by
  intro j v hj;rw[cell_of y,← bq,A];rw[ig]at hj;split at hj
  .rw[jE]at hj
   rw[aU]
   .exact hj
   .rw[aJ]at hj;exact hj.1
  .cases hj
 obtain⟨es,d,B⟩:=uV (P:=P) (w:=w) (b:=p.1) (off:=off) n 0 #[] ((l1.drop off).take n) l λj v hj=>by simpa using a j v hj
 refine⟨((l1.drop off).take n).toArray,es,by unfold loadCells;simpa using d,by rw[hr];simpa using(k.drop off).take n,by simpa using l,λe C=>?_⟩;obtain⟨o,rfl⟩:=B e C;exact⟨.inl ⟨t,u⟩,x⟩
theorem Dq(S:Sat K Z h w){E:Env}(k:Of K P E)(F:Fits P E){t:TypeId}{i off:Nat}{p:Nat×Nat}(hp:Z i=some p){a:AV}(e:loadT E h t i off=some a):
 ∃v es,aj P (loadVar t ⟨p.1,off,none⟩) w v w es∧RV Z a v∧∀e∈es,xE K w.heap.size e:=by
 unfold loadT at e;cases l:E.tt.get t with
 |none=>rw[l]at e;cases e
 |some ti=>
  rw[l]at e;have H:=F.tt t ti l;unfold loadVar;cases b:ti.isAgg with
  |true=>
   simp only[b,bA]at e;cases m:Ev.jw E h i off ti.size with
   |none=>rw[m]at e;cases e
   |some r=>
    rw[m]at e;simp at e;subst e;obtain⟨vs,es,h1,c,o,j⟩:=ou (P:=P) S k hp m;refine⟨.agg vs,es,?_,by unfold RV;exact⟨vs,rfl,c⟩,j⟩;refine aj.aG (uU (w:=w) H) ?_;rw[b,aH rfl];refine aj.aG (dL (w:=w) H) ?_;have y:=aj.bind h1 (aj.pure (P:=P) (w:=w) (Value.agg vs)) (f:=λx=>Pure.pure (Value.agg x));simpa using y
  |false=>
   simp only[b,bC]at e;cases n:Nat.ble OLD i with
   |true=>
    rw[n,bA]at e;obtain rfl:=Rp S (k.mem _ _ _ e).1 hp (aF n);obtain⟨v,h1,c,o,j⟩:=S.KS k e;refine⟨v,[⟨.cell ⟨i - OLD,off,none⟩,false,false⟩],?_,c,by intro e d;simp at d;subst d;exact⟨.inr ⟨o,j,rfl⟩,S.bs _ j⟩⟩;refine aj.aG (uU (w:=w) H) ?_;rw[b,au (by decide)];exact aj.load h1
   |false=>
   rw[n,bC]at e;split at e
   .rename_i vs el g z s
    obtain⟨v,h1,c⟩:=S.cell hp s e;obtain⟨q,ob,u,A,B,C,_⟩:=S.at s trivial;obtain rfl:p=q:=by rw[hp]at u;exact aI u
    refine⟨v,[⟨.cell ⟨p.1,off,none⟩,false,false⟩],?_,c,by intro e d;simp at d;subst d;exact⟨.inl ⟨A,B⟩,C⟩⟩;refine aj.aG (uU (w:=w) H) ?_;rw[b,au (by decide)];exact aj.load h1
   .cases e
end
end
section
variable{a:AV}{e t:TypeId}{fs:List (Nat×Nat×TypeId)}{i:Nat}{l:List AV}{p:Nat×Nat}
def fE(P:Program)(K:Ctx)(ι:Nm)(w:World)(s:Sem Value)(a:AV):Prop:=
 ∃v es,aj P s w v w es∧RV ι a v∧∀e∈es,xE K w.heap.size e
section
variable{P:Program}{K:Ctx}{Z:Nm}{h:AH}{w:World}{E:Env}
theorem fE.pure{v:Value}{a:AV}(h:RV Z a v):fE P K Z w (Pure.pure v) a:=⟨v,[],aj.pure v,h,by simp⟩
theorem fE.aG{α:Type}{s:Sem α}{f:α->Sem Value}{x:α}{a:AV}(h1:aj P s w x w [])(b:fE P K Z w (f x) a):fE P K Z w (s>>=f) a:=by
 obtain⟨v,es,c,d,e⟩:=b;exact⟨v,es,by simpa using aj.bind h1 c,d,e⟩
theorem fE.kE{α:Type}{s:Sem α}{f:α->Sem Value}{x:α}{a:AV}{e1:List Event}(h1:aj P s w x w e1)(c:∀e∈e1,xE K w.heap.size e)(d:fE P K Z w (f x) a):fE P K Z w (s>>=f) a:=by
 obtain⟨v,es,g,i,j⟩:=d;refine⟨v,e1++es,aj.bind h1 g,i,λe b=>?_⟩;rcases bF.1 b with b|b
 .exact c e b
 .exact j e b
theorem CZ{d:TD}(F:Fits P E)(e:E.d t=some d):∃ti,E.tt.get t=some ti∧ti.d=d∧QB P t ti:=by
 unfold Env.d at e;cases a:E.tt.get t with
 |none=>rw[a]at e;cases e
 |some ti=>rw[a]at e;simp at e;exact⟨ti,rfl,e,F.tt t ti a⟩
theorem dP(F:Fits P E)(b:E.d t=some (.slice e)):P.underlying t=some (.slice e):=by
 obtain⟨ti,_,c,H⟩:=CZ F b;obtain⟨d,f,a⟩:=H.desc;rw[c]at a;cases d<;>first|exact a.elim|(simp only at a;subst a;exact f)
theorem uQ{k:Nat}(F:Fits P E)(b:E.d t=some (.array k e)):P.underlying t=some (.array k e):=by
 obtain⟨ti,_,c,H⟩:=CZ F b;obtain⟨d,f,a⟩:=H.desc;rw[c]at a;cases d<;>first|exact a.elim|(obtain⟨rfl,rfl⟩:=a;exact f)
theorem sK(F:Fits P E)(b:E.d t=some (.ptr e)):P.underlying t=some (.pointer e):=by
 obtain⟨ti,_,c,H⟩:=CZ F b;obtain⟨d,f,a⟩:=H.desc;rw[c]at a;cases d<;>first|exact a.elim|(simp only at a;subst a;exact f)
theorem kM{k:TypeId}(F:Fits P E)(b:E.d t=some (.map k e)):P.underlying t=some (.map k e)∧∃c,P.underlying k=some c:=by
 obtain⟨ti,_,f,H⟩:=CZ F b;obtain⟨d,g,a⟩:=H.desc;rw[f]at a;cases d<;>first|exact a.elim|(obtain⟨rfl,rfl,i⟩:=a;exact⟨g,i⟩)
theorem zl{k:IntKind}(F:Fits P E)(b:E.d t=some (.int k)):P.underlying t=some (.int k):=by
 obtain⟨ti,_,c,H⟩:=CZ F b;obtain⟨d,e,a⟩:=H.desc;rw[c]at a;cases d<;>first|exact a.elim|(simp only at a;subst a;exact e)
theorem oh(F:Fits P E)(b:E.d t=some .str):P.underlying t=some .string:=by
 obtain⟨ti,_,c,H⟩:=CZ F b;obtain⟨d,e,a⟩:=H.desc;rw[c]at a;cases d<;>first|exact a.elim|exact e
theorem JL(F:Fits P E)(b:E.d t=some .bool):P.underlying t=some .bool:=by
 obtain⟨ti,_,c,H⟩:=CZ F b;obtain⟨d,e,a⟩:=H.desc;rw[c]at a;cases d<;>first|exact a.elim|exact e
theorem uw(F:Fits P E)(b:E.d t=some .Km):P.underlying t=some .unsafePointer:=by
 obtain⟨ti,_,c,H⟩:=CZ F b;obtain⟨d,e,a⟩:=H.desc;rw[c]at a;cases d<;>first|exact a.elim|exact e
theorem Uo(F:Fits P E)(f:E.d t=some .func):∃a b c,P.underlying t=some (.func a b c):=by
 obtain⟨ti,_,g,H⟩:=CZ F f;obtain⟨d,i,e⟩:=H.desc;rw[g]at e;cases d<;>first|exact e.elim|exact⟨_,_,_,i⟩
theorem Hz{b:Bool}(F:Fits P E)(c:E.d t=some (.iface b)):∃e,P.underlying t=some (.interface e):=by
 obtain⟨ti,_,f,H⟩:=CZ F c;obtain⟨d,g,a⟩:=H.desc;rw[f]at a;cases d<;>first|exact a.elim|exact⟨_,g⟩
theorem zk(F:Fits P E)(f:E.d t=some (.struct fs)):∃a,P.underlying t=some (.struct a)∧
 ∀(i:Nat) (x:Nat×Nat×TypeId),fs[i]? =some x->∃g,a[i]? =some g∧x.1=g.offset∧x.2.2=g.type∧∃e,P.info? g.type=some e∧e.size=x.2.1:=by
 obtain⟨ti,_,j,H⟩:=CZ F f;obtain⟨d,k,b⟩:=H.desc;rw[j]at b;cases d<;>first|exact b.elim|skip
 rename_i a;obtain⟨l,m⟩:=b;refine⟨a,k,λi x c=>?_⟩;have hi:i<a.size:=by
  rw[← l];rw[aJ]at c;exact c.1
 exact⟨a[i],by simp[hi],m i x a[i] c (by simp[hi])⟩
theorem FJ(F:Fits P E)(f:E.d t=some (.struct fs)){a:Array Field}(g:P.underlying t=some (.struct a))(k:Nat)(j:k<a.size):
 ∃i,P.info? a[k].type=some i:=by
 obtain⟨ti,_,l,H⟩:=CZ F f;obtain⟨d,c,e⟩:=H.desc;rw[l]at e;rw[g]at c;cases c;obtain⟨p,m⟩:=e;have b:k<fs.length:=by omega
 obtain⟨_,_,n,o,_⟩:=m k fs[k] a[k] (by simp[b]) (by simp[j]);exact⟨n,o⟩
theorem iV{o:Nat}{v:Value}(a:RV Z (.ptr i o) v):∃p,Z i=some p∧v= .pointer (some ⟨p.1,o,none⟩):=by unfold RV at a;exact a
theorem iB{k:IntKind}{x:Int}{v:Value}(a:RV Z (.int k x) v):v= .int k x:=by unfold RV at a;exact a
theorem mq{s:List UInt8}{v:Value}(a:RV Z (.str s) v):v= .string ⟨s.toArray⟩:=by unfold RV at a;exact a
theorem pG{b:Bool}{v:Value}(a:RV Z (.bool b) v):v= .bool b:=by unfold RV at a;exact a
theorem qP{v:Value}(a:RV Z (.agg l) v):∃cs,v= .agg cs∧dJ Z l cs.toList:=by unfold RV at a;exact a
theorem Yn{v:Value}(a:RV Z (.bV l) v):∃cs,v= .tuple cs∧dJ Z l cs.toList:=by unfold RV at a;exact a
theorem kK{o l:Nat}{c:Option Nat}{v:Value}(a:RV Z (.sl i o l c) v):∃p,Z i=some p∧∃cap,v= .slice (some ⟨p.1,o,none⟩) l cap∧l<=cap∧(∀k,c=some k->cap=k)∧(c=none->o=0->cap<=p.2):=by unfold RV at a;exact a
theorem xk{v:Value}(b:RV Z (.iface t a) v):∃x,v= .iface t x∧RV Z a x:=by unfold RV at b;exact b
theorem qH{v:Value}(a:RV Z (.map i) v):∃p,Z i=some p∧v= .map (some p.1):=by unfold RV at a;exact a
theorem wB{f:FuncId}{a b:List AV}{v:Value}(c:RV Z (.fn f a b) v):∃as bs,v= .func (.func f) as bs∧dJ Z a as.toList∧dJ Z b bs.toList:=by unfold RV at c;exact c
theorem mD{b:Bool}:RV Z (.bool b) (.bool b):=by unfold RV;rfl
theorem jA{k:IntKind}{x:Int}:RV Z (.int k x) (.int k x):=by unfold RV;rfl
theorem IG{s:List UInt8}:RV Z (.str s) (.string ⟨s.toArray⟩):=by unfold RV;rfl
theorem uW{o:Nat}(hi:Z i=some p):RV Z (.ptr i o) (.pointer (some ⟨p.1,o,none⟩)):=by unfold RV;exact⟨p,hi,rfl⟩
theorem LP{cs:Array Value}(a:dJ Z l cs.toList):RV Z (.agg l) (.agg cs):=by unfold RV;exact⟨cs,rfl,a⟩
theorem sZ{cs:Array Value}(a:dJ Z l cs.toList):RV Z (.bV l) (.tuple cs):=by unfold RV;exact⟨cs,rfl,a⟩
theorem aaT{op:UnOp}{x:AV}{v:Value}(e:unA op x=some a)(b:RV Z x v):fE P K Z w (Op.unary op v) a:=by
 unfold unA at e;split at e
 .obtain rfl:=pG b;cases e;exact fE.pure mD
 .rename_i k x;obtain rfl:=iB b;cases e
  show fE P K Z w (Op.intArith .sub k 0 x) _;exact fE.pure jA
 .rename_i k x;obtain rfl:=iB b;cases e
  show fE P K Z w (Op.intBits .xor k (if k.signed then -1 else k.max) x) _;have:(if k.signed=true then(-1:Int)else k.max)=cond k.signed (-1) k.max:=by cases k.signed<;>rfl
  rw[this];exact fE.pure jA
 .cases e
theorem NR{x:AV}{v:Value}(e:ze x i=some a)(b:RV Z x v):fE P K Z w (Instr.extract v i) a:=by
 unfold ze at e;split at e
 .obtain⟨cs,rfl,c⟩:=Yn b
  obtain⟨u,h1,d⟩:=c.get e;unfold Instr.extract;simp only[← bq,h1];exact fE.pure d
 .cases e
theorem Jc(F:Fits P E){s:TypeId}{x:AV}{v:Value}(e:uO E s x i=some a)(m:RV Z x v):fE P K Z w (Instr.fieldAt s v i) a:=by
 unfold uO at e;split at e
 .rename_i y id off hd
  obtain⟨z,n,q⟩:=zk F hd;obtain⟨p,hi,rfl⟩:=iV m;split at e
  .rename_i o size ty r
   obtain⟨g,c,h1,_,t,u,l⟩:=q i _ r;simp only at h1 l;cases d:Nat.beq size 0 with
   |true=>rw[d]at e;cases e
   |false=>
    rw[d]at e;simp only[bC,bM]at e;subst e;have j:¬t.size=0:=by rw[l];exact Nat.ne_of_beq_eq_false d
    unfold Instr.fieldAt;refine fE.aG (aj.underlying n) ?_;simp only[c];refine fE.aG (x:=⟨p.1,off,none⟩) (by unfold Instr.sureAddr;exact aj.pure _) ?_;refine fE.aG (x:=⟨p.1,off+o,none⟩) ?_ (fE.pure (uW hi));unfold fieldPlace;have:=aj.bind (e1:=[]) (e2:=[]) (aj.sizeOf (w:=w) u) (f:=λk=>if k=0 then partAt ⟨p.1,off,none⟩ g.offset g.byteOffset else Pure.pure ((⟨p.1,off,none⟩:Addr).add g.offset)) (b:=⟨p.1,off+o,none⟩) (w2:=w) (by
     rw[au j,ng,← h1];exact aj.pure _)
    simpa using this
  .cases e
 .cases e
theorem Kh(F:Fits P E){u:TypeId}{l:List AV}{o:Nat}{a:AV}{cs:Array Value}(e:Rm E u l o=some a)(f:dJ Z l cs.toList):∃v,aj P (part u cs o) w v w []∧RV Z a v:=by
 unfold Rm at e;cases c:E.tt.get u with
 |none=>rw[c]at e;cases e
 |some ti=>
  rw[c]at e;have H:=F.tt u ti c;unfold part;cases b:ti.isAgg with
  |true=>
   simp only[b,bA]at e;cases d:takeN l o ti.size with
   |none=>rw[d]at e;cases e
   |some r=>
    rw[d]at e;simp at e;subst e;obtain⟨hr,i⟩:=uD d;refine⟨.agg (cs.extract o (o+ti.size)),?_,LP ?_⟩
    .refine aj.aG (uU H) ?_
     rw[b,aH rfl];exact aj.aG (dL H) (aj.pure _)
    .rw[hr]
     have:(cs.extract o (o+ti.size)).toList=(cs.toList.drop o).take ti.size:=by
      rw[Array.toList_extract,List.extract_eq_take_drop];simp
     rw[this];exact(f.drop o).take _
  |false=>
   simp only[b,bC]at e;obtain⟨v,h1,g⟩:=f.get e;refine⟨v,?_,g⟩;refine aj.aG (uU H) ?_;rw[b,au (by decide)];simp only[← bq,h1];exact aj.pure v
theorem Uj(F:Fits P E){x:AV}{v:Value}(e:Ht E t x i=some a)(d:RV Z x v):fE P K Z w (Instr.field t v i) a:=by
 unfold Ht at e;split at e
 .rename_i r l f
  obtain⟨s,j,k⟩:=zk F f;obtain⟨cs,rfl,m⟩:=qP d;split at e
  .rename_i o size ty n
   obtain⟨g,b,h1,c,_⟩:=k i _ n;simp only at h1 c;subst h1;subst c;unfold Instr.field;refine fE.aG (aj.underlying j) ?_;simp only[b];refine fE.aG (x:=cs) (by unfold asAgg;exact aj.pure _) ?_;obtain⟨u,p,q⟩:=Kh (w:=w) F e m;exact⟨u,[],p,q,by simp⟩
  .cases e
 .cases e
end
end
section
variable{α:Type}{a:AV}{t:TypeId}{ti:TI}{u:Value}
section
variable{P:Program}{K:Ctx}{Z:Nm}{h:AH}{w:World}{E:Env}
theorem dV{b:Bool}{x:α}{y:α}(e:cond b (some x) none=some y):b=true∧x=y:=by
 cases b with
 |true=>exact⟨rfl,aI e⟩
 |false=>cases e
theorem iF{b:Bool}{x:Option α}{y:α}(e:cond b x none=some y):b=true∧x=some y:=by
 cases b with
 |true=>exact⟨rfl,e⟩
 |false=>cases e
theorem cK{b:Bool}{x:Option α}{y:α}(e:cond b none x=some y):b=false∧x=some y:=by
 cases b with
 |true=>cases e
 |false=>exact⟨rfl,e⟩
theorem lq(F:Fits P E)(e:E.tt.get t=some ti):QB P t ti:=F.tt t ti e
theorem I6(F:Fits P E){x i:AV}{v:Value}(e:aR E t x i=some a)(f:RV Z x v)(g:RV Z i u):fE P K Z w (Instr.indexAt t v u) a:=by
 unfold aR at e;split at e
 .rename_i el id off len _ k n hd
  split at e
  .rename_i j d
   obtain⟨b,rfl⟩:=dV e;have b:=bZ b;have H:=lq F d;have c:=dP F hd;obtain⟨p,hp,cap,rfl,_⟩:=kK f;obtain rfl:=iB g;unfold Instr.indexAt;refine fE.aG (x:=(k,n)) (aj.pure _) ?_;refine fE.aG (aj.underlying c) ?_;refine fE.aG (x:=(some ⟨p.1,off,none⟩,len,el)) (aj.pure _) ?_;refine fE.aG (aj.underlying c) ?_;simp only[aH b];refine fE.aG (dL H) ?_;rw[ng];exact fE.pure (uW hp)
  .cases e
 .rename_i len el id off k n hd
  split at e
  .rename_i j d
   obtain⟨b,rfl⟩:=dV e;have b:=bZ b;have H:=lq F d;have c:=uQ F hd;obtain⟨p,hp,rfl⟩:=iV f;obtain rfl:=iB g;unfold Instr.indexAt;refine fE.aG (x:=(k,n)) (aj.pure _) ?_;refine fE.aG (aj.underlying c) ?_;refine fE.aG (x:=(some ⟨p.1,off,none⟩,len,el)) (aj.pure _) ?_;refine fE.aG (aj.underlying c) ?_;simp only[aH b];refine fE.aG (dL H) ?_;rw[ng];exact fE.pure (uW hp)
  .cases e
 .cases e
theorem toList_mk(l:List UInt8):(⟨l.toArray⟩:ByteArray).toList=l:=by
 rw[ByteArray.toList_eq]
theorem size_mk(l:List UInt8):(⟨l.toArray⟩:ByteArray).size=l.length:=by
 show l.toArray.size=_;simp
theorem abL(l:List UInt8)(i:Nat):(⟨l.toArray⟩:ByteArray)[i]? =l[i]? :=by
 by_cases hi:i<l.length
 .have h1:i<(⟨l.toArray⟩:ByteArray).size:=by rw[size_mk];exact hi
  rw[getElem?_pos (⟨l.toArray⟩:ByteArray) i h1,aK hi];rfl
 .have h1:¬i<(⟨l.toArray⟩:ByteArray).size:=by rw[size_mk];exact hi
  rw[getElem?_neg (⟨l.toArray⟩:ByteArray) i h1,gK (by omega)]
theorem Uf(F:Fits P E){x i:AV}{v:Value}(e:Hg E t x i=some a)(g:RV Z x v)(j:RV Z i u):fE P K Z w (Instr.index t v u) a:=by
 unfold Hg at e;split at e
 .rename_i s k n d
  obtain⟨c,e⟩:=iF e;have c:=bZ c;obtain rfl:=mq g;obtain rfl:=iB j;cases f:s[n.toNat]? with
  |none=>rw[f]at e;cases e
  |some b=>
   rw[f]at e;simp only[jX,bM]at e;subst e;unfold Instr.index;refine fE.aG (x:=(k,n)) (aj.pure _) ?_;refine fE.aG (aj.underlying (oh F d)) ?_;simp only[aH c,abL,f];exact fE.pure jA
 .rename_i len el l k n d
  split at e
  .rename_i y m
   obtain⟨c,e⟩:=iF e;have c:=bZ c;obtain⟨cs,rfl,o⟩:=qP g;obtain rfl:=iB j;obtain⟨r,p,q⟩:=Kh (w:=w) F e o;unfold Instr.index;refine fE.aG (x:=(k,n)) (aj.pure _) ?_;refine fE.aG (aj.underlying (uQ F d)) ?_;simp only[aH c];exact fE.aG (dL (lq F m)) ⟨r,[],p,q,by simp⟩
  .cases e
 .cases e
theorem I4(F:Fits P E){x:AV}{v:Value}(e:uK E t x=some a)(f:RV Z x v):fE P K Z w (Instr.makeInterface t v) a:=by
 unfold uK at e;split at e
 .cases e
 .cases e
 .rename_i d b g
  cases e;obtain⟨ti,_,i,H⟩:=CZ F g;obtain⟨j,k,c⟩:=H.desc;rw[i]at c;unfold Instr.makeInterface;refine fE.aG (aj.underlying k) ?_;have hr:RV Z (.iface t x) (.iface t v):=by unfold RV;exact⟨v,rfl,f⟩
  cases j<;>first
   |exact fE.pure hr
   |skip
  rename_i l;cases d<;>first
   |exact c.elim
   |exact(b _ rfl).elim
theorem P9(F:Fits P E){s:TypeId}{x:AV}{v:Value}{ok:Bool}(e:Dc E t x ok=some a)(n:RV Z x v):fE P K Z w (Instr.typeAssert v s t ok) a:=by
 unfold Dc at e;split at e
 .rename_i ti u y o
  have H:=lq F o;obtain⟨j,rfl,k⟩:=xk n;obtain⟨c,p,l⟩:=H.desc;unfold Instr.typeAssert;refine fE.aG (aj.underlying p) ?_;split at e
  .cases e
  .rename_i f
   have key:∀c,(∀q,c≠TypeDesc.interface q)->fE P K Z w (if u=t then(Pure.pure (if ok=true then Value.tuple #[j,.bool true]else j):Sem Value)else
    (if ok = true then (do Pure.pure (Value.tuple #[← zeroValue t, .bool false])) else runtimePanic (.typeAssertion (some s) (some u) t ""))) a := by
    intro c _;cases b:Nat.beq u t with
    |true=>
     rw[b,bA]at e;rw[aH (ak b)];cases ok with
     |true=>cases e;exact fE.pure (sZ (bQ k (bQ mD bS)))
     |false=>cases e;exact fE.pure k
    |false=>
     rw[b,bC]at e;rw[au (λh=>by rw[h]at b;simp at b)];cases ok with
     |false=>cases e
     |true=>
      cases e;obtain⟨i,z,hi,_,_,r,g,_⟩:=H.info;exact fE.aG (aj.zeroValue hi r) (fE.pure (sZ (bQ (g Z) (bQ mD bS))))
   cases m:ti.d<;>rw[m]at l<;>cases c<;>first
    |exact l.elim
    |exact(f _ m).elim
    |(simp only;exact key .bool (by simp))
 .cases e
end
end
section
variable{a:AV}{o1 o2:Operand}{op:BinOp}{t:TypeId}{u:Value}
section
variable{P:Program}{K:Ctx}{Z:Nm}{h:AH}{w:World}{E:Env}
theorem Ii{x:AV}{k:IntKind}{n:Int}(e:asInt x=some (k,n)):x= .int k n:=by
 unfold asInt at e;split at e
 .cases e;rfl
 .cases e
theorem Ih{x:AV}{s:List UInt8}(e:JV x=some s):x= .str s:=by
 unfold JV at e;split at e
 .cases e;rfl
 .cases e
theorem mF{k a:IntKind}(e:xg k a=true):k=a:=by
 revert e;cases k<;>cases a<;>decide
theorem EL{k c:IntKind}{a b:Int}:aj P (eqGuard op t o1 o2 (.int k a) (.int c b)) w () w []:=by
 unfold eqGuard;cases op<;>exact aj.pure _
theorem EK{a b:ByteArray}:aj P (eqGuard op t o1 o2 (.string a) (.string b)) w () w []:=by
 unfold eqGuard;cases op<;>exact aj.pure _
theorem Wq{k:IntKind}{x y:Int}(c:op≠.shl∧op≠.shr)(e:Nz op k x y=some a):fE P K Z w (binOp op t (.int k x) (.int k y)) a:=by
 cases op<;>first
  |exact aP rfl c.1
  |exact aP rfl c.2
  |(simp only[Nz,bM]at e
    subst e;simp only[binOp,ne_eq,not_true_eq_false,if_false]
    first
     |exact fE.pure jA
     |exact fE.pure mD)
  |(simp only[Nz]at e
    obtain⟨b,e⟩:=cK e;cases e;have b:¬y=0:=by simpa using b
    simp only[binOp,ne_eq,not_true_eq_false,if_false,Op.intDiv,au b];exact fE.pure jA)
theorem Ue{k c:IntKind}{x y:Int}(e:K9 op k x c y=some a):fE P K Z w (binOp op t (.int k x) (.int c y)) a:=by
 by_cases h1:op= .shl
 .subst h1
  simp only[K9]at e;obtain⟨b,e⟩:=cK e;cases e;have b:¬y<0:=by simpa using b
  simp only[binOp,Op.shift,au b];exact fE.pure jA
 .by_cases d:op= .shr
  .subst d
   simp only[K9]at e;obtain⟨b,e⟩:=cK e;cases e;have b:¬y<0:=by simpa using b
   simp only[binOp,Op.shift,au b];exact fE.pure jA
  .have f:cond (xg k c) (Nz op k x y) none=some a:=by
    cases op<;>first|exact aP rfl h1|exact aP rfl d|exact e
   obtain⟨g,e2⟩:=iF f;obtain rfl:=mF g;exact Wq ⟨h1,d⟩ e2
theorem Tj{x y:List UInt8}(e:O5 op x y=some a):fE P K Z w (binOp op t (.string ⟨x.toArray⟩) (.string ⟨y.toArray⟩)) a:=by
 have c:∀z:List UInt8,(⟨z.toArray⟩:ByteArray).toList=z:=toList_mk;cases op<;>simp only[O5]at e<;>first
  |(cases e;done)
  |(simp only[bM]at e
    subst e;simp only[binOp,Op.stringOp,c];exact fE.pure mD)
  |(obtain⟨b,rfl⟩:=dV e
    have b:=bZ b;have:¬(((⟨x.toArray⟩:ByteArray).size+(⟨y.toArray⟩:ByteArray).size:Nat):Int)>IntKind.i64.max:=by
     rw[size_mk,size_mk];have d:IntKind.i64.max=9223372036854775807:=by decide
     rw[d];omega
    simp only[binOp,Op.stringOp,au this];have f:(⟨x.toArray⟩:ByteArray)++⟨y.toArray⟩=⟨(x++y).toArray⟩:=by
     apply ByteArray.ext;simp
    rw[f];exact fE.pure IG)
theorem BQ(b o a:Nat):aj P (sameAddr ⟨b,o,none⟩ ⟨b,a,none⟩) w (Nat.beq o a) w []:=by
 unfold sameAddr;have:((⟨b,o,none⟩:Addr)==⟨b,a,none⟩)=Nat.beq o a:=by
  by_cases h:o=a
  .subst h;simp
  .have h1:Nat.beq o a=false:=by cases c:Nat.beq o a with |false=>rfl|true=>exact aP (ak c) h
   rw[h1];simp[h]
 simp only[beq_self_eq_true,if_true];rw[this];exact aj.pure _
def Pp:Value->Bool
 | .int _ _| .float _ _| .complex _ _ _| .string _=>false
 |_=>true
theorem binOp_eql{v:Value}(hp:Pp v=true):binOp .eql t v u=(do pure (.bool (← Op.equal t v u))):=by
 cases v<;>first
  |exact aP hp Bool.false_ne_true
  |(cases u<;>rfl)
theorem binOp_neq{v:Value}(hp:Pp v=true):binOp .neq t v u=(do pure (.bool (!(← Op.equal t v u)))):=by
 cases v<;>first
  |exact aP hp Bool.false_ne_true
  |(cases u<;>rfl)
theorem NT(F:Fits P E){op:BinOp}(G:op= .eql∨op= .neq){t:TypeId}{x y:AV}{v u:Value}{b:Bool}(e:JI E t x y=some b)(a:RV Z x v)(f:RV Z y u)(D o2:Operand):
 aj P (eqGuard op t D o2 v u) w () w []∧aj P (Op.equal t v u) w b w []∧Pp v=true:=by
 have k:∀v u:Value,(v≠.nilIface∨u≠.nilIface)->((∀c,v≠.agg c)∨(∀c,u≠.agg c))->aj P (eqGuard op t D o2 v u) w () w []:=by
  intro v u h1 A;unfold eqGuard;rcases G with rfl|rfl<;>cases v<;>cases u<;>first
   |exact aj.pure _
   |(exfalso;rcases h1 with h|h<;>exact h rfl)
   |(exfalso;rcases A with h|h<;>exact h _ rfl)
 have Q:∀d,P.underlying t=some d->∀r:Bool,aj P (Op.equalIn 10000 t v u) w r w []->aj P (Op.equal t v u) w r w []:=λ_ _ _ h=>h;unfold JI at e;split at e
 .
  rename_i o;split at e
  .obtain rfl:=pG a;obtain rfl:=pG f;cases e
   refine⟨k _ _ (by simp) (by simp),?_,rfl⟩;unfold Op.equal Op.maxDepth Op.equalIn;exact aj.aG (aj.underlying (JL F o)) (aj.pure _)
  .cases e
 .
  rename_i el o;have g:=sK F o;split at e
  .unfold RV at a f;subst a;subst f;cases e
   refine⟨k _ _ (by simp) (by simp),?_,rfl⟩;unfold Op.equal Op.maxDepth Op.equalIn;exact aj.aG (aj.underlying g) (aj.pure _)
  .unfold RV at a;subst a;obtain⟨p,_,rfl⟩:=iV f;cases e
   refine⟨k _ _ (by simp) (by simp),?_,rfl⟩;unfold Op.equal Op.maxDepth Op.equalIn;exact aj.aG (aj.underlying g) (aj.pure _)
  .unfold RV at f;subst f;obtain⟨p,_,rfl⟩:=iV a;cases e
   refine⟨k _ _ (by simp) (by simp),?_,rfl⟩;unfold Op.equal Op.maxDepth Op.equalIn;exact aj.aG (aj.underlying g) (aj.pure _)
  .rename_i i R j b'
   obtain⟨p,hp,rfl⟩:=iV a;obtain⟨q,M,rfl⟩:=iV f;obtain⟨B,rfl⟩:=dV e;rw[av]at B;obtain⟨h1,A⟩:=B;obtain rfl:=ak h1;obtain rfl:p=q:=by rw[hp]at M;exact aI M
   split at A
   .rename_i ti H
    have I:¬ti.size=0:=λh0=>by rw[h0]at A;simp at A
    refine⟨k _ _ (by simp) (by simp),?_,rfl⟩;unfold Op.equal Op.maxDepth Op.equalIn;refine aj.aG (aj.underlying g) ?_;refine aj.aG (dL (lq F H)) ?_;rw[aH I];exact BQ _ _ _
   .cases A
  .cases e
 .
  rename_i el o;have g:=dP F o;split at e
  .unfold RV at a f;subst a;subst f;cases e
   refine⟨k _ _ (by simp) (by simp),?_,rfl⟩;unfold Op.equal Op.maxDepth Op.equalIn;exact aj.aG (aj.underlying g) (aj.pure _)
  .unfold RV at a;subst a;obtain⟨p,_,c,rfl,_⟩:=kK f;cases e
   refine⟨k _ _ (by simp) (by simp),?_,rfl⟩;unfold Op.equal Op.maxDepth Op.equalIn;exact aj.aG (aj.underlying g) (aj.pure _)
  .unfold RV at f;subst f;obtain⟨p,_,c,rfl,_⟩:=kK a;cases e
   refine⟨k _ _ (by simp) (by simp),?_,rfl⟩;unfold Op.equal Op.maxDepth Op.equalIn;exact aj.aG (aj.underlying g) (aj.pure _)
  .unfold RV at a f;subst a;obtain⟨s,rfl,_⟩:=f;cases e
   refine⟨k _ _ (by simp) (by simp),?_,rfl⟩;unfold Op.equal Op.maxDepth Op.equalIn;exact aj.aG (aj.underlying g) (aj.pure _)
  .unfold RV at f a;subst f;obtain⟨s,rfl,_⟩:=a;cases e
   refine⟨k _ _ (by simp) (by simp),?_,rfl⟩;unfold Op.equal Op.maxDepth Op.equalIn;exact aj.aG (aj.underlying g) (aj.pure _)
  .cases e
 .
  rename_i S el o;have g:=(kM F o).1;split at e
  .unfold RV at a f;subst a;subst f;cases e
   refine⟨k _ _ (by simp) (by simp),?_,rfl⟩;unfold Op.equal Op.maxDepth Op.equalIn;exact aj.aG (aj.underlying g) (aj.pure _)
  .unfold RV at a;subst a;obtain⟨p,_,rfl⟩:=qH f;cases e
   refine⟨k _ _ (by simp) (by simp),?_,rfl⟩;unfold Op.equal Op.maxDepth Op.equalIn;exact aj.aG (aj.underlying g) (aj.pure _)
  .unfold RV at f;subst f;obtain⟨p,_,rfl⟩:=qH a;cases e
   refine⟨k _ _ (by simp) (by simp),?_,rfl⟩;unfold Op.equal Op.maxDepth Op.equalIn;exact aj.aG (aj.underlying g) (aj.pure _)
  .cases e
 .
  rename_i o;obtain⟨T,U,V,g⟩:=Uo F o;split at e
  .unfold RV at a f;subst a;subst f;cases e
   refine⟨k _ _ (by simp) (by simp),?_,rfl⟩;unfold Op.equal Op.maxDepth Op.equalIn;exact aj.aG (aj.underlying g) (aj.pure _)
  .unfold RV at a;subst a;obtain⟨as,bs,rfl,_⟩:=wB f;cases e
   refine⟨k _ _ (by simp) (by simp),?_,rfl⟩;unfold Op.equal Op.maxDepth Op.equalIn;exact aj.aG (aj.underlying g) (aj.pure _)
  .unfold RV at f;subst f;obtain⟨as,bs,rfl,_⟩:=wB a;cases e
   refine⟨k _ _ (by simp) (by simp),?_,rfl⟩;unfold Op.equal Op.maxDepth Op.equalIn;exact aj.aG (aj.underlying g) (aj.pure _)
  .cases e
 .
  rename_i W o;obtain⟨X,g⟩:=Hz F o;split at e
  .unfold RV at a;subst a;obtain⟨N,rfl,_⟩:=xk f;cases e
   refine⟨k _ _ (by simp) (by simp),?_,rfl⟩;unfold Op.equal Op.maxDepth Op.equalIn;exact aj.aG (aj.underlying g) (aj.pure _)
  .unfold RV at f;subst f;obtain⟨N,rfl,_⟩:=xk a;cases e
   refine⟨k _ _ (by simp) (by simp),?_,rfl⟩;unfold Op.equal Op.maxDepth Op.equalIn;exact aj.aG (aj.underlying g) (aj.pure _)
  .cases e
 .
  rename_i Y o;split at e
  .rename_i l m
   obtain⟨B,e⟩:=iF e;obtain⟨cs,rfl,J⟩:=qP a;obtain⟨ds,rfl,L⟩:=qP f;obtain⟨O,_,z⟩:=F.uM B;have C:=(z cs Z w J).2 ds m b L e D o2 op G;exact⟨C.1,C.2,rfl⟩
  .cases e
 .
  rename_i n el o;split at e
  .rename_i l m
   obtain⟨B,e⟩:=iF e;obtain⟨cs,rfl,J⟩:=qP a;obtain⟨ds,rfl,L⟩:=qP f;obtain⟨O,_,z⟩:=F.uM B;have C:=(z cs Z w J).2 ds m b L e D o2 op G;exact⟨C.1,C.2,rfl⟩
  .cases e
 .cases e
theorem Lu(F:Fits P E){x y:AV}{v:Value}(e:Oc E op t x y=some a)(g:RV Z x v)(i:RV Z y u)(j o2:Operand):
 fE P K Z w (do eqGuard op t j o2 v u;binOp op t v u) a:=by
 unfold Oc at e;cases l:asInt x with
 |some p=>
  obtain⟨k,n⟩:=p;simp only[l]at e;cases c:asInt y with
  |none=>rw[c]at e;cases e
  |some q=>
   obtain⟨z,m⟩:=q;simp only[c]at e;obtain rfl:=Ii l;obtain rfl:=Ii c;obtain rfl:=iB g;obtain rfl:=iB i;exact fE.aG EL (Ue e)
 |none=>
  simp only[l]at e;cases d:JV x with
  |some s=>
   simp only[d]at e;cases c:JV y with
   |none=>rw[c]at e;cases e
   |some A=>
    simp only[c]at e;obtain rfl:=Ih d;obtain rfl:=Ih c;obtain rfl:=mq g;obtain rfl:=mq i;exact fE.aG EK (Tj e)
  |none=>
   simp only[d]at e;unfold aaz at e;split at e
   .cases f:JI E t x y with
    |none=>rw[f]at e;cases e
    |some b=>
     rw[f]at e;cases e;obtain⟨h1,o,r⟩:=NT (w:=w) F (.inl rfl) f g i j o2;refine fE.aG h1 ?_;rw[binOp_eql r];exact fE.aG o (fE.pure mD)
   .cases f:JI E t x y with
    |none=>rw[f]at e;cases e
    |some b=>
     rw[f]at e;cases e;obtain⟨h1,o,r⟩:=NT (w:=w) F (.inr rfl) f g i j o2;refine fE.aG h1 ?_;rw[binOp_neq r];exact fE.aG o (fE.pure mD)
   .cases e
theorem AQ{x y:Operand}(h:(TL x||TL y)=true):aj P (eqGuard op t x y .nilIface .nilIface) w () w []:=by
 have:(∃v,x= .const v)∨∃v,y= .const v:=by
  rw[eD]at h;rcases h with h|h
  .left;cases x<;>first|exact⟨_,rfl⟩|cases h
  .right;cases y<;>first|exact⟨_,rfl⟩|cases h
 unfold eqGuard;rcases this with⟨c,rfl⟩|⟨c,rfl⟩
 .cases op<;>exact aj.pure _
 .cases op<;>first
   |exact aj.pure _
   |(cases x<;>exact aj.pure _)
theorem ZO(F:Fits P E){x y:AV}{v:Value}(e:Xw E op t o1 o2 x y=some a)(b:RV Z x v)(c:RV Z y u):
 fE P K Z w (do eqGuard op t o1 o2 v u;binOp op t v u) a:=by
 unfold Xw at e;cases d:(TL o1||TL o2)with
 |false=>rw[d]at e;exact Lu F e b c o1 o2
 |true=>
  rw[d]at e;simp only[bA]at e;split at e
  .split at e
   .split at e
    .rename_i j g
     obtain⟨k,i⟩:=Hz F g;unfold RV at b c;subst b;subst c;have f:aj P (Op.equal t .nilIface .nilIface) w true w []:=by
      unfold Op.equal Op.maxDepth Op.equalIn;exact aj.aG (aj.underlying i) (aj.pure _)
     split at e
     .cases e
      refine fE.aG (AQ d) ?_;rw[binOp_eql (by rfl)];exact fE.aG f (fE.pure mD)
     .cases e
      refine fE.aG (AQ d) ?_;rw[binOp_neq (by rfl)];exact fE.aG f (fE.pure mD)
     .cases e
    .cases e
   .exact Lu F e b c o1 o2
  .exact Lu F e b c o1 o2
end
end
section
variable{a:AV}{hi lo off size:Nat}{mx:Option AV}{p:Nat×Nat}{t ty:TypeId}{vhi vlo vmx:Option Value}
section
variable{P:Program}{K:Ctx}{Z:Nm}{h:AH}{w:World}{E:Env}
theorem aj.mR{r:Nat}{o:Obj}(a:w.heap[r]? =some o)(d:∀c e f,o≠.cells c e f)(g:o.isChan=false)(h1:¬K.fz r)(i:K.own r):
 aj P (Go.getObj r) w o w [⟨.obj r,false,false⟩]∧∀e∈[(⟨.obj r,false,false⟩:Event)],xE K w.heap.size e:=by
 have j:r<w.heap.size:=by rw[aS]at a;exact a.1
 refine⟨by have:=aj.getObj (P:=P) a d;rw[g]at this;exact this,λe b=>?_⟩;simp at b;subst b;exact⟨h1,i,j,rfl⟩
theorem WZ(F:Fits P E){s d:TypeId}{x:AV}{v:Value}(e:N7 E s d x=some a)(f:RV Z x v):fE P K Z w (convert s d v) a:=by
 unfold N7 at e;split at e
 .rename_i i k j n b c
  cases e;obtain rfl:=iB f;obtain⟨ti,_,_,H⟩:=CZ F b;obtain⟨l,g,_⟩:=H.desc;unfold convert;refine fE.aG (aj.underlying g) ?_;refine fE.aG (aj.underlying (zl F c)) ?_;exact fE.pure jA
 .rename_i m b c
  cases e;obtain rfl:=mq f;unfold convert;refine fE.aG (aj.underlying (oh F b)) ?_;refine fE.aG (aj.underlying (oh F c)) ?_;exact fE.pure IG
 .cases e
theorem vW.length{l:List AE}{es:List MapEntry}(hr:vW Z l es):l.length=es.length:=by
 induction l generalizing es with
 |nil=>rw[show es=[]from hr];rfl
 |cons a l b=>obtain⟨e,r,rfl,_,_,_,c⟩:=hr;simp[b c]
theorem YX(y:K.P=P)(F:Fits P E)(S:Sat K Z h w){x:AV}{v:Value}(e:T9 E h t x=some a)(f:RV Z x v):fE P K Z w (Builtin.len_ #[t] ty #[v]) a:=by
 unfold T9 at e;unfold Builtin.len_;split at e
 .rename_i s d
  cases e;obtain rfl:=mq f;refine fE.aG (aj.underlying (oh F d)) ?_;have:(s.length:Int)=((⟨s.toArray⟩:ByteArray).size:Int):=by rw[size_mk]
  unfold int64;rw[this];exact fE.pure jA
 .rename_i n z d
  cases e;refine fE.aG (aj.underlying (uQ F d)) ?_;exact fE.pure jA
 .rename_i el d
  cases e;unfold RV at f;subst f;refine fE.aG (aj.underlying (dP F d)) ?_;exact fE.pure jA
 .rename_i el d
  cases e;unfold RV at f;obtain⟨b,c,rfl⟩:=f;refine fE.aG (aj.underlying (dP F d)) ?_;exact fE.pure jA
 .rename_i el a n c d
  cases e;unfold RV at f;obtain⟨_,rfl,_⟩:=f;refine fE.aG (aj.underlying (dP F d)) ?_;exact fE.pure jA
 .rename_i el id off n cap d
  cases e;obtain⟨p,_,c,rfl,_⟩:=kK f;refine fE.aG (aj.underlying (dP F d)) ?_;exact fE.pure jA
 .rename_i j el d
  cases e;unfold RV at f;subst f;refine fE.aG (aj.underlying (kM F d).1) ?_;exact fE.pure jA
 .rename_i j el id d
  split at e
  .rename_i es ck k
   cases e;obtain⟨p,hp,rfl⟩:=qH f;obtain⟨q,ob,i,l,m,A,o,g,rfl,hr⟩:=S.at k trivial;obtain rfl:p=q:=by rw[hp]at i;exact aI i
   obtain⟨r,u⟩:=aj.mR (P:=P) (K:=K) o (by simp) rfl l m;refine fE.aG (aj.underlying (kM F d).1) ?_;refine fE.kE r u ?_;have:(es.length:Int)=(g.size:Int):=by rw[hr.length];simp
   unfold int64;rw[this];exact fE.pure jA
  .cases e
 .cases e
theorem KV{x a:AV}{v:Value}(e:wW x=some a)(c:RV Z x v){o:Oper}{y:Operand}{ρ:Operand->Value}(d:ρ y=v)(f:o.op= .nilCheck y):
 ∃es,aj P (execOp ρ o) w (.value v) w es∧RV Z a v∧es=[]:=by
 unfold wW at e;unfold execOp;simp only[f,d];split at e
 .cases e
  obtain⟨p,hp,rfl⟩:=iV c;exact⟨[],aj.pure _,uW hp,rfl⟩
 .cases e
  have b:=c;obtain⟨as,bs,rfl,_⟩:=wB c;exact⟨[],aj.pure _,b,rfl⟩
 .cases e
  have b:=c;obtain⟨g,rfl,_⟩:=xk c;exact⟨[],aj.pure _,b,rfl⟩
 .cases e
  have b:=c;unfold RV at c;obtain⟨p,_,rfl⟩:=c;exact⟨[],aj.pure _,b,rfl⟩
 .cases e
theorem Xu{lo hi:Nat}{x:AV}{k:Nat}{v:Value}{c:BoundsCode}(e:kW lo hi x=some k)(d:RV Z x v):aj P (Instr.sliceBound v hi c) w k w []∧k<=hi∧lo<=k:=by
 unfold kW at e;split at e
 .rename_i f i
  obtain⟨b,rfl⟩:=dV e;have b:=bZ b;obtain rfl:=iB d;refine⟨?_,by omega,by omega⟩;unfold Instr.sliceBound;refine aj.aG (a:=(f,i)) (aj.pure _) ?_;have g:0<=i∧i<=(hi:Int):=by omega
  simp only[aH g];exact aj.pure _
 .cases e
def SX(Z:Nm):Option AV->Option Value->Prop
 |none,v=>v=none
 |some a,v=>∃u,v=some u∧RV Z a u
theorem uy{y:Nat}{x:AV}{k:Nat}{v:Value}{c:BoundsCode}(j:hi<=y)(e:kW lo hi x=some k)(d:RV Z x v):aj P (Instr.sliceBound v y c) w k w []∧k<=hi:=by
 unfold kW at e;split at e
 .rename_i f i
  obtain⟨b,rfl⟩:=dV e;have b:=bZ b;obtain rfl:=iB d;refine⟨?_,by omega⟩;unfold Instr.sliceBound;refine aj.aG (a:=(f,i)) (aj.pure _) ?_;have g:0<=i∧i<=(y:Int):=by omega
  simp only[aH g];exact aj.pure _
 .cases e
theorem adA{lo:Option AV}{a:Option Value}{h l:Nat}{c:BoundsCode}(e:BK lo h 0=some l)(b:SX Z lo a):
 aj P (match a with |some v=>Instr.sliceBound v h c|none=>pure 0) w l w []∧l<=h:=by
 cases lo with
 |none=>obtain rfl:a=none:=b;cases e;exact⟨aj.pure _,bT _⟩
 |some x=>
  obtain⟨u,rfl,d⟩:=b;obtain⟨h1,f,_⟩:=Xu (P:=P) (w:=w) (c:=c) e d;exact⟨h1,f⟩
def TN(cap m:Nat)(mx:Option AV):Prop:=match mx with |some x=>∃M,kW 0 M x=some m∧M<=cap|none=>m=cap
theorem Al{isS:Bool}{len cap:Nat}{lo hi mx:Option AV}{d e f:Option Value}{m h l H:Nat}(o:SX Z lo d)(g:SX Z hi e)(i:SX Z mx f)
 (q:TN cap m mx)(b:Uh hi H len mx.isSome=some h)(n:H<=m)(A:BK lo h 0=some l):
 aj P (Instr.sliceBounds isS len cap d e f) w (l,h,m) w []∧l<=h∧(h<=H∨h=len):=by
 have j:=λc=>adA (P:=P) (w:=w) (c:=c) A o;have p:h<=H∨h=len:=by
  cases hi with
  |none=>simp only[Uh]at b;obtain⟨_,b⟩:=cK b;cases b;exact .inr rfl
  |some x=>
   unfold Uh kW at b;simp only at b;split at b
   .obtain⟨r,rfl⟩:=dV b
    have r:=bZ r;exact .inl (by omega)
   .cases b
 refine⟨?_,(j .sliceB).2,p⟩;have a:∀c,aj P (match d with |some v=>Instr.sliceBound v h c|none=>pure 0) w l w []:=λc=>(j c).1;cases mx with
 |none=>
  obtain rfl:f=none:=i;obtain rfl:m=cap:=q;cases hi with
  |none=>
   obtain rfl:e=none:=g;cases b;cases d with
   |none=>exact aj.aG (aj.pure _) (aj.aG (aj.pure _) (aj.aG (a .sliceB) (aj.pure _)))
   |some z=>exact aj.aG (aj.pure _) (aj.aG (aj.pure _) (aj.aG (a .sliceB) (aj.pure _)))
  |some x=>
   obtain⟨u,rfl,k⟩:=g;cases d with
   |none=>exact aj.aG (aj.pure _) (aj.aG (uy n b k).1 (aj.aG (a .sliceB) (aj.pure _)))
   |some z=>exact aj.aG (aj.pure _) (aj.aG (uy n b k).1 (aj.aG (a .sliceB) (aj.pure _)))
 |some y=>
  obtain⟨B,rfl,s⟩:=i;obtain⟨M,h1,t⟩:=q;cases hi with
  |none=>cases b
  |some x=>
   obtain⟨u,rfl,k⟩:=g;cases d with
   |none=>exact aj.aG (uy t h1 s).1 (aj.aG (uy n b k).1 (aj.aG (a .slice3C) (aj.pure _)))
   |some z=>exact aj.aG (uy t h1 s).1 (aj.aG (uy n b k).1 (aj.aG (a .slice3C) (aj.pure _)))
theorem extract_mk(s:List UInt8)(l h:Nat):(⟨s.toArray⟩:ByteArray).extract l h=⟨((s.take h).drop l).toArray⟩:=by
 apply ByteArray.ext;simp[List.extract_eq_take_drop,List.drop_take]
theorem Mt{l m:Nat}:(if m=l then(⟨p.1,off,none⟩:Addr)else(⟨p.1,off,none⟩:Addr).add (l*size))=⟨p.1,cond (Nat.beq m l) off (off+l*size),none⟩:=by
 by_cases h:m=l
 .subst h;simp
 .have:Nat.beq m l=false:=by cases a:Nat.beq m l with |false=>rfl|true=>exact aP (ak a) h
  rw[au h,this,ng];rfl
theorem DZ{id off size len cap m:Nat}{lo hi mx:Option AV}{c d f:Option Value}{a:AV}{p:Nat×Nat}(hp:Z id=some p){isS:Bool}
 (e:pX id off size len m lo hi mx.isSome=some a)(t:TN cap m mx)(i:len<=m∨mx.isSome=true)(j:SX Z lo c)(n:SX Z hi d)(o:SX Z mx f):
 ∃l h,aj P (Instr.sliceBounds isS len cap c d f) w (l,h,m) w []∧RV Z a (.slice (some (if m=l then(⟨p.1,off,none⟩:Addr)else(⟨p.1,off,none⟩:Addr).add (l*size))) (h - l) (m - l)):=by
 unfold pX at e;split at e
 .cases e
 .rename_i h b
  split at e
  .cases e
  .rename_i l u
   cases e;obtain⟨h1,v,g⟩:=Al (P:=P) (w:=w) (isS:=isS) (cap:=cap) j n o t b (ah _) u;refine⟨l,h,h1,?_⟩;rw[Mt];unfold RV;refine⟨p,hp,m - l,rfl,?_,λk q=>(aI q),λq=>(by cases q)⟩;have:h<=m:=by
    rcases g with g|g
    .exact g
    .rcases i with r|r
     .omega
     .cases hi with
      |none=>rw[r]at b;cases b
      |some x=>
       unfold Uh kW at b;simp only at b;split at b
       .obtain⟨s,rfl⟩:=dV b
        have s:=bZ s;omega
       .cases b
   omega
theorem Tv(F:Fits P E){x:AV}{lo hi:Option AV}{v:Value}(e:iN E t x lo hi mx=some a)(B:RV Z x v)
 (i:SX Z lo vlo)(j:SX Z hi vhi)(o:SX Z mx vmx):fE P K Z w (Instr.sliceAt t v vlo vhi vmx) a:=by
 unfold iN at e;unfold Instr.sliceAt;have C:mx.isSome=false->mx=none∧vmx=none:=by
  intro h;cases mx with
  |none=>exact⟨rfl,o⟩
  |some _=>cases h
 split at e
 .
  rename_i s d;obtain rfl:=mq B;obtain⟨b,e⟩:=cK e;obtain⟨rfl,rfl⟩:=C b;unfold Mv at e;split at e
  .cases e
  .rename_i h g
   split at e
   .cases e
   .rename_i l D
    cases e;refine fE.aG (aj.underlying (oh F d)) ?_;simp only;unfold Instr.slice;refine fE.aG (aj.underlying (oh F d)) ?_;simp only[Option.isSome_none,gG,if_false];rw[size_mk];refine fE.aG (Al (isS:=false) (len:=s.length) (cap:=s.length) (m:=s.length) (h:=h) (l:=l) (H:=s.length) i j (show SX Z none none from rfl) rfl g (ah _) D).1 ?_;simp only[extract_mk];exact fE.pure IG
 .
  rename_i el d;unfold RV at B;subst B;split at e
  .rename_i u m h l I b g D
   cases e;have h0:h=0:=by
    cases hi with
    |none=>simp only[Uh]at g;obtain⟨_,g⟩:=cK g;cases g;rfl
    |some x=>
     unfold Uh kW at g;simp only at g;split at g
     .obtain⟨q,rfl⟩:=dV g
      have q:=bZ q;omega
     .cases g
   subst h0;have M:m=0:=by
    cases mx with
    |none=>cases b;rfl
    |some x=>
     unfold BK kW at b;simp only at b;split at b
     .obtain⟨q,rfl⟩:=dV b
      have q:=bZ q;omega
     .cases b
   subst M;have f:TN 0 0 mx:=by
    cases mx with
    |none=>rfl
    |some x=>exact⟨0,b,ah _⟩
   obtain⟨h1,z,_⟩:=Al (P:=P) (w:=w) (isS:=true) (len:=0) (cap:=0) (m:=0) (h:=0) (l:=l) (H:=0) i j o f g (ah _) D;obtain rfl:l=0:=by omega
   refine fE.aG (aj.underlying (dP F d)) ?_;simp only;unfold Instr.slice;refine fE.aG (aj.underlying (dP F d)) ?_;refine fE.aG h1 ?_;refine fE.aG (dL (lq F I)) ?_;exact fE.pure (by unfold RV;rfl)
  .cases e
 .
  rename_i n el id off d;obtain⟨p,hp,rfl⟩:=iV B;split at e
  .rename_i u m A b
   refine fE.aG (aj.underlying (uQ F d)) ?_;refine fE.aG (x:=(⟨p.1,off,none⟩:Addr)) (aj.pure _) ?_;have f:TN n m mx:=by
    cases mx with
    |none=>cases b;rfl
    |some x=>exact⟨n,b,ah _⟩
   obtain⟨l,h,h1,z⟩:=DZ (P:=P) (w:=w) (isS:=false) hp e f (by cases mx with |none=>cases b;exact .inl (ah _)|some _=>exact .inr rfl) i j o;refine fE.aG h1 ?_;refine fE.aG (dL (lq F A)) ?_;exact fE.pure z
  .cases e
 .
  rename_i el id off len c d;obtain⟨p,hp,cap,rfl,y,N,_⟩:=kK B;obtain rfl:=N c rfl;split at e
  .rename_i u m A b
   refine fE.aG (aj.underlying (dP F d)) ?_;simp only;unfold Instr.slice;refine fE.aG (aj.underlying (dP F d)) ?_;have f:TN cap m mx:=by
    cases mx with
    |none=>cases b;rfl
    |some x=>exact⟨cap,b,ah _⟩
   obtain⟨l,h,h1,z⟩:=DZ (P:=P) (w:=w) (isS:=true) hp e f (by cases mx with |none=>cases b;exact .inl y|some _=>exact .inr rfl) i j o;refine fE.aG h1 ?_;refine fE.aG (dL (lq F A)) ?_;have:(if m=l then some (⟨p.1,off,none⟩:Addr)else(some (⟨p.1,off,none⟩:Addr)).map (·.add (l*u.size)))=some (if m=l then(⟨p.1,off,none⟩:Addr)else(⟨p.1,off,none⟩:Addr).add (l*u.size)):=by
    split<;>rfl
   simp only[this];exact fE.pure z
  .cases e
 .
  rename_i el id off len d;obtain⟨p,hp,cap,rfl,y,_,L⟩:=kK B;split at e
  .rename_i u A
   unfold vY at e;split at e
   .cases e
   .rename_i h g
    split at e
    .cases e
    .rename_i l D
     obtain rfl:vmx=none:=o;obtain⟨h1,z,S⟩:=Al (P:=P) (w:=w) (isS:=true) (len:=len) (cap:=cap) (m:=cap) (mx:=none) i j (show SX Z none none from rfl) rfl g y D;have T:h<=len:=by omega
     refine fE.aG (aj.underlying (dP F d)) ?_;simp only;unfold Instr.slice;refine fE.aG (aj.underlying (dP F d)) ?_;refine fE.aG h1 ?_;refine fE.aG (dL (lq F A)) ?_;cases q:Nat.beq l 0 with
     |true=>
      rw[q,bA]at e;cases e;obtain rfl:=ak q;have:(if cap=0 then some (⟨p.1,off,none⟩:Addr)else(some (⟨p.1,off,none⟩:Addr)).map (·.add (0*u.size)))=some ⟨p.1,off,none⟩:=by
       split
       .rfl
       .simp[ng]
      simp only[this];refine fE.pure ?_;unfold RV;exact⟨p,hp,cap,rfl,by omega,λk G=>(by cases G),L⟩
     |false=>
      rw[q,bC]at e;have O:l≠0:=λh=>by rw[h]at q;cases q
      cases r:Nat.blt l len with
      |true=>
       rw[r,bA]at e;cases e;rw[cO]at r;have J:¬cap=l:=by omega
       simp only[au J,jX,ng];refine fE.pure ?_;unfold RV;exact⟨p,hp,cap - l,rfl,by omega,λk G=>(by cases G),λG h0=>by have:=L G (by omega);omega⟩
      |false=>
       rw[r,bC]at e;cases e;have Q:¬l<len:=λh=>by rw[← cO]at h;rw[h]at r;cases r
       refine fE.pure ?_;unfold RV;have R:h - l=0:=by omega
       rw[R];exact⟨_,cap - l,rfl⟩
  .rename_i u x A
   split at e
   .rename_i m b
    have f:TN cap m (some x):=⟨len,b,y⟩;refine fE.aG (aj.underlying (dP F d)) ?_;simp only;unfold Instr.slice;refine fE.aG (aj.underlying (dP F d)) ?_;obtain⟨l,h,h1,z⟩:=DZ (P:=P) (w:=w) (isS:=true) (mx:=some x) hp e f (.inr rfl) i j o;refine fE.aG h1 ?_;refine fE.aG (dL (lq F A)) ?_;have:(if m=l then some (⟨p.1,off,none⟩:Addr)else(some (⟨p.1,off,none⟩:Addr)).map (·.add (l*u.size)))=some (if m=l then(⟨p.1,off,none⟩:Addr)else(⟨p.1,off,none⟩:Addr).add (l*u.size)):=by
     split<;>rfl
    simp only[this];exact fE.pure z
   .cases e
  .cases e
 .cases e
end
end
section
variable{α:Type}{a:AV}{size:Nat}{u:Value}
section
variable{P:Program}{K:Ctx}{ι:Nm}{h:AH}{w:World}{E:Env}
theorem Ki{α a:Type}{f:α->Sem a}{g:α->a}:∀{l:List α},(∀x∈l,aj P (f x) w (g x) w [])->aj P (l.mapM f) w (l.map g) w []
 |[],_=>by rw[List.mapM_nil];exact aj.pure _
 |x::l,h=>by
  rw[List.mapM_cons];exact aj.aG (h x (by simp)) (aj.aG (Ki λy b=>h y (by simp[b])) (aj.pure _))
theorem QC{a:Type}{f:α->Sem a}{g:α->a}{l:Array α}(h:∀x∈l,aj P (f x) w (g x) w []):aj P (l.mapM f) w (l.map g) w []:=by
 rw[Array.mapM_eq_mapM_toList,← bind_pure_comp];have:=Ki (P:=P) (w:=w) (f:=f) (g:=g) (l:=l.toList) λx c=>h x (by simpa using c);have b:=aj.aG this (aj.pure (P:=P) (w:=w) ((l.toList.map g).toArray)) (f:=λx=>Pure.pure x.toArray);have e:(l.toList.map g).toArray=l.map g:=by apply Array.ext';simp
 rw[e]at b;exact b
theorem foldl_set{ι:Nm}:∀{as:List AV} {vs:List Value} {l:List AV} {cells:Array Value} (off k:Nat),dJ ι as vs->dJ ι l cells.toList->
 dJ ι (setAt l (off+k) as) ((vs.zipIdx k).foldl (λcs p=>cs.setIfInBounds (off+p.2) p.1) cells).toList
 |[],vs,l,cells,off,k,h1,b=>by rw[bJ h1];simpa[setAt]using b
 |a::as,_,l,cells,off,k,h1,b=>by
  obtain⟨v,r,rfl,c,d⟩:=aX h1;simp only[List.zipIdx_cons,jZ,setAt];have:=foldl_set (l:=l.set (off+k) a) (cells:=cells.setIfInBounds (off+k) v) off (k+1) d (by rw[Array.toList_setIfInBounds];exact b.set _ c);rw[show off+(k+1)=off+k+1 by omega]at this;exact this
theorem Cg:∀(as l:List AV) (off:Nat),(setAt l off as).length=l.length
 |[],_,_=>rfl
 |a::as,l,off=>by rw[setAt,Cg as];simp
def RVp(ι:Nm):List (Nat×AV)->List (Nat×Value)->Prop
 |[],vs=>vs=[]
 |a::l,vs=>∃v r,vs=(a.1,v)::r∧RV ι a.2 v∧RVp ι l r
theorem H6{v:Value}(c:RV ι a v)(h1:a.isAny=false)(d:Nat.beq a.cells.length size=true):
 dJ ι a.cells v.cells.toList∧v.cells.size=size:=by
 have e:=ak d;have b:dJ ι a.cells v.cells.toList:=c.cells (.inl h1);refine⟨b,?_⟩;rw[← e,b.length];simp
theorem CO{a place:Nat->Option (Nat×Nat)}(hp:∀i q,a i=some q->place i=some q):∀{ps:List (Nat×AV)} {vs:List (Nat×Value)} {l r:List AV} {cells:Array Value},
 y9 a l ps=some r->RVp ι ps vs->dJ ι l cells.toList->∃c,Instr.fill place cells vs=some c∧dJ ι r c.toList
 |[],vs,l,r,cells,e,h1,f=>by
  have k:vs=[]:=h1;subst k;simp only[y9,bM]at e;subst e;exact⟨cells,by unfold Instr.fill;rfl,f⟩
 |p::ps,vs,l,r,cells,e,h1,f=>by
  obtain⟨v,b,rfl,m,n⟩:=h1;simp only[y9]at e;split at e
  .cases e
  .rename_i q o
   obtain⟨e1,e⟩:=cK e;obtain⟨e2,e⟩:=iF e;rw[av]at e2;obtain⟨s,g⟩:=H6 m e1 e2.1;have t:=aF e2.2;have d:l.length=cells.size:=by rw[f.length];simp
   obtain⟨c,u,hr⟩:=CO hp (vs:=b) (cells:=v.cells.zipIdx.foldl (λcs (c,j)=>cs.setIfInBounds (q.1+j) c) cells) e n (by
    have:=foldl_set (cells:=cells) q.1 0 s f;rw[Nat.add_zero]at this;have y:v.cells.zipIdx.foldl (λcs (x:Value×Nat)=>cs.setIfInBounds (q.1+x.2) x.1) cells=(v.cells.toList.zipIdx 0).foldl (λcs p=>cs.setIfInBounds (q.1+p.2) p.1) cells:=by
     rw[← mY];simp
    exact y▸this)
   refine⟨c,?_,hr⟩;rw[Instr.fill,hp _ _ o];have:(v.cells.size≠q.2||q.1+v.cells.size>cells.size)=false:=by
    simp only[Bool.or_eq_false_iff,gQ];exact⟨by simp[g],by rw[g,← d];omega⟩
   obtain⟨z,A⟩:=q;simp only at this ⊢;rw[this];exact u
theorem nR(F:Fits P E){t:TypeId}{ti:TI}(a:E.tt.get t=some ti):∃z,aj P (zeroValue t) w z w []∧RV ι ti.zeroV z∧dJ ι ti.zero z.cells.toList∧z.cells.size=ti.size∧ti.zero.length=ti.size:=by
 obtain⟨i,z,hi,_,_,b,h1,c,d,e⟩:=(lq F a).info;exact⟨z,aj.zeroValue hi b,h1 ι,c ι,d,e⟩
theorem Ux(F:Fits P E){t:TypeId}{ps:List (Nat×AV)}{vs:Array (Nat×Value)}{a:AV}(e:Ib E t ps=some a)(B:RVp ι ps vs.toList):fE P K ι w (Instr.build t vs) a:=by
 unfold Ib at e;cases p:E.tt.get t with
 |none=>rw[p]at e;cases e
 |some ti=>
  simp only[p]at e;obtain⟨z,I,_,m,_,_⟩:=nR (w:=w) (ι:=ι) F p;have o:E.d t=some ti.d:=by unfold Env.d;rw[p];rfl
  unfold Instr.build;refine fE.aG I ?_;split at e
  .rename_i C j
   rw[j]at o;cases b:y9 (λi=>(C[i]?).map λx=>(x.1,x.2.1)) ti.zero ps with
   |none=>rw[b]at e;cases e
   |some r=>
    rw[b]at e;simp at e;subst e;obtain⟨s,D,J⟩:=zk F o;refine fE.aG (aj.underlying D) ?_;have L:aj P (s.mapM λf=>(do Pure.pure (f.offset,← sizeOf f.type):Sem (Nat×Nat))) w (s.map λf=>(f.offset,P.cellsOf f.type)) w []:=by
     refine QC λf b=>?_;obtain⟨k,M,rfl⟩:=Array.mem_iff_getElem.1 b;obtain⟨H,G⟩:=FJ F o D k M;refine aj.aG (aj.sizeOf G) ?_;have:P.cellsOf s[k].type=H.size:=by unfold Program.cellsOf;rw[G];rfl
     rw[this];exact aj.pure _
    refine fE.aG L ?_;obtain⟨c,v,hr⟩:=CO (place:=λi=>(s.map λf=>(f.offset,P.cellsOf f.type))[i]?) (λi q l=>by
     cases y:C[i]? with
     |none=>rw[y]at l;cases l
     |some x=>
      rw[y]at l;cases l;obtain⟨g,A,h1,_,N,O,Q⟩:=J i x y;have:P.cellsOf g.type=N.size:=by unfold Program.cellsOf;rw[O];rfl
      simp[A,this,h1,Q]) b B m
    simp only[v];exact fE.pure (LP hr)
  .rename_i n el j
   rw[j]at o;split at e
   .rename_i u R
    cases b:y9 (λi=>some (i*u.size,u.size)) ti.zero ps with
    |none=>rw[b]at e;cases e
    |some r=>
     rw[b]at e;simp at e;subst e;refine fE.aG (aj.underlying (uQ F o)) ?_;refine fE.aG (dL (lq F R)) ?_;obtain⟨c,v,hr⟩:=CO (place:=λi=>some (i*u.size,u.size)) (λi q l=>l) b B m;simp only[v];exact fE.pure (LP hr)
   .cases e
  .cases e
theorem Ul{x y:AV}{v:Value}{r:Bool}(e:OV x y=some r)(c:RV ι x v)(d:RV ι y u):
 (∃a b,x= .bool a∧v= .bool a∧u= .bool b∧r=(a==b))∨(∃k a b,x= .int k a∧v= .int k a∧u= .int k b∧r=(a==b))∨(∃a b,x= .str a∧v= .string ⟨a.toArray⟩∧u= .string ⟨b.toArray⟩∧r=(a==b)):=by
 unfold OV at e;split at e
 .rename_i a b;cases e;obtain rfl:=pG c;obtain rfl:=pG d;exact .inl ⟨a,b,rfl,rfl,rfl,rfl⟩
 .rename_i k a g b
  obtain⟨f,rfl⟩:=dV e;obtain rfl:=mF f;obtain rfl:=iB c;obtain rfl:=iB d;exact .inr (.inl ⟨k,a,b,rfl,rfl,rfl,rfl⟩)
 .rename_i a b;cases e;obtain rfl:=mq c;obtain rfl:=mq d;exact .inr (.inr ⟨a,b,rfl,rfl,rfl,rfl⟩)
 .cases e
theorem bytes_beq(a b:List UInt8):((⟨a.toArray⟩:ByteArray)==⟨b.toArray⟩)=(a==b):=by
 show(a.toArray==b.toArray)=(a==b);simp
theorem Hq{f:TypeDesc}{k:AV}{v:Value}(A:RV ι k v)
 (g:(f= .bool∧∃b,k= .bool b)∨((∃j,f= .int j)∧∃j n,k= .int j n)∨(f= .string∧∃s,k= .str s)):
 ∀{es:List AE} {vs:List MapEntry} {i:Nat} {r:Option (Nat×AV)},yx k es i=some r->vW ι es vs->
  ∃u,Instr.findNow f v vs i=some u∧(match r,u with |none,none=>True|some p,some q=>p.1=q.1∧RV ι p.2 q.2|_,_=>False)
 |[],vs,i,r,e,h=>by
  have D:vs=[]:=h;subst D;cases e;exact⟨none,by unfold Instr.findNow;rfl,trivial⟩
 |a::es,vs,i,r,e,h=>by
  obtain⟨B,C,rfl,h1,F,J,G⟩:=h;simp only[yx]at e;have key:∀b,eqK k a.key=some b->Instr.sameNow f v B.key=some b:=by
   intro b l;have z:OV k a.key=some b:=by
    rcases g with⟨_,c,rfl⟩|⟨_,j,n,rfl⟩|⟨_,s,rfl⟩<;>exact l
   rcases Ul z A h1 with⟨x,y,e1,e2,m,o⟩|⟨j,x,y,e1,e2,m,o⟩|⟨x,y,e1,e2,m,o⟩
   .rcases g with⟨t,_⟩|⟨_,_,_,d⟩|⟨_,_,d⟩
    .subst t;rw[e2,m,o];rfl
    .rw[e1]at d;cases d
    .rw[e1]at d;cases d
   .rcases g with⟨_,_,d⟩|⟨⟨_,t⟩,_⟩|⟨_,_,d⟩
    .rw[e1]at d;cases d
    .subst t;rw[e2,m,o];simp[Instr.sameNow]
    .rw[e1]at d;cases d
   .rcases g with⟨_,_,d⟩|⟨_,_,_,d⟩|⟨t,_⟩
    .rw[e1]at d;cases d
    .rw[e1]at d;cases d
    .subst t;rw[e2,m,o]
     show some _=_;rw[bytes_beq]
  split at e
  .cases e
  .rename_i l
   cases e;refine⟨some (i,B.val),?_,rfl,F⟩;rw[Instr.findNow,key _ l]
  .rename_i l
   obtain⟨u,H,I⟩:=Hq A g e G;refine⟨u,?_,I⟩;rw[Instr.findNow,key _ l];exact H
def QG(ι:Nm)(r:Option (Nat×AV))(a:Option (Nat×Value)):Prop:=match r,a with |none,none=>True|some p,some q=>p.1=q.1∧RV ι p.2 q.2|_,_=>False
theorem wC{g:TypeId}{l:List AV}{x:Array Value}(d:∀(y:Array Value) (m:List AV) (r:Bool),dJ ι m y.toList->AP l m=some r->aj P (Op.equal g (.agg x) (.agg y)) w r w []):
 ∀{es:List AE} {vs:List MapEntry} {i:Nat} {r:Option (Nat×AV)},yx (.agg l) es i=some r->vW ι es vs->
  ∃f,aj P (Instr.findAsking g (.agg x) vs i) w f w []∧QG ι r f
 |[],vs,i,r,e,h=>by
  have o:vs=[]:=h;subst o;cases e;exact⟨none,by unfold Instr.findAsking;exact aj.pure _,trivial⟩
 |a::es,vs,i,r,e,h=>by
  obtain⟨j,k,rfl,h1,p,z,q⟩:=h;simp only[yx]at e;have key:∀b,eqK (.agg l) a.key=some b->aj P (Op.equal g (.agg x) j.key) w b w []:=by
   intro b c;cases n:a.key with
   |agg m=>
    rw[n]at c h1;obtain⟨cs,s,t⟩:=qP h1;rw[s];exact d cs m b t c
   |_=>rw[n]at c;cases c
  split at e
  .cases e
  .rename_i c
   cases e;refine⟨some (i,j.val),?_,rfl,p⟩;rw[Instr.findAsking];exact aj.aG (key _ c) (aj.pure _)
  .rename_i c
   obtain⟨f,u,v⟩:=wC d e q;refine⟨f,?_,v⟩;rw[Instr.findAsking];exact aj.aG (key _ c) u
theorem qM(F:Fits P E){i:TypeId}{k:AV}{z:Value}(c:He E i k=true)(D:RV ι k z){es:List AE}{vs:List MapEntry}{r:Option (Nat×AV)}(e:yx k es 0=some r)(hr:vW ι es vs):
 (∀b,aj P (Instr.checkKey b 10000 i z) w () w [])∧∃f,aj P (Instr.findKey i z vs) w f w []∧QG ι r f:=by
 unfold He at c;have g:∀A,P.underlying i=some A->((A= .bool∧∃b,k= .bool b)∨((∃j,A= .int j)∧∃j n,k= .int j n)∨(A= .string∧∃s,k= .str s))->
  (∀b,aj P (Instr.checkKey b 10000 i z) w () w [])∧∃f,aj P (Instr.findKey i z vs) w f w []∧QG ι r f:=by
  intro A o O;obtain⟨f,h1,B⟩:=Hq D O e hr;refine⟨λb=>?_,f,?_,B⟩
  .unfold Instr.checkKey
   refine aj.aG (aj.underlying o) ?_;rcases O with⟨rfl,_⟩|⟨⟨j,rfl⟩,_⟩|⟨rfl,_⟩<;>exact aj.pure _
  .unfold Instr.findKey
   refine aj.aG (aj.underlying o) ?_;rw[h1];exact aj.pure _
 split at c
 .rename_i p
  split at c
  .exact g _ (JL F p) (.inl ⟨rfl,_,rfl⟩)
  .cases c
 .rename_i j p
  split at c
  .exact g _ (zl F p) (.inr (.inl ⟨⟨j,rfl⟩,_,_,rfl⟩))
  .cases c
 .rename_i p
  split at c
  .exact g _ (oh F p) (.inr (.inr ⟨rfl,_,rfl⟩))
  .cases c
 .rename_i Q p
  split at c
  .rename_i l
   obtain⟨x,rfl,G⟩:=qP D;obtain⟨t,o,H⟩:=F.uM c;obtain⟨h1,B⟩:=H x ι w G;refine⟨h1,?_⟩;have u:∀(y:Array Value) (m:List AV) (r:Bool),dJ ι m y.toList->AP l m=some r->aj P (Op.equal i (.agg x) (.agg y)) w r w []:=λy m r I J=>(B y m r I J (.const (.bool true)) (.const (.bool true)) .eql (.inl rfl)).2;unfold Instr.findKey;cases d:Instr.findNow t (.agg x) vs 0 with
   |none=>
    obtain⟨f,L,M⟩:=wC u e hr;refine⟨f,aj.aG (aj.underlying o) ?_,M⟩;rw[d];exact L
   |some q=>
    refine⟨q,aj.aG (aj.underlying o) (by rw[d];exact aj.pure _),?_⟩;cases C:vs with
    |nil=>
     subst C;have v:es=[]:=by cases es with |nil=>rfl|cons a es=>obtain⟨_,_,N,_⟩:=hr;cases N
     subst v;cases e;unfold Instr.findNow at d;cases d;trivial
    |cons e1 r1=>
     subst C;rw[Instr.findNow]at d;have:Instr.sameNow t (.agg x) e1.key=none:=by cases t<;>rfl
     rw[this]at d;cases d
  .cases c
 .rename_i n el p
  split at c
  .rename_i l
   obtain⟨x,rfl,G⟩:=qP D;obtain⟨t,o,H⟩:=F.uM c;obtain⟨h1,B⟩:=H x ι w G;refine⟨h1,?_⟩;have u:∀(y:Array Value) (m:List AV) (r:Bool),dJ ι m y.toList->AP l m=some r->aj P (Op.equal i (.agg x) (.agg y)) w r w []:=λy m r I J=>(B y m r I J (.const (.bool true)) (.const (.bool true)) .eql (.inl rfl)).2;unfold Instr.findKey;cases d:Instr.findNow t (.agg x) vs 0 with
   |none=>
    obtain⟨f,L,M⟩:=wC u e hr;refine⟨f,aj.aG (aj.underlying o) ?_,M⟩;rw[d];exact L
   |some q=>
    refine⟨q,aj.aG (aj.underlying o) (by rw[d];exact aj.pure _),?_⟩;cases C:vs with
    |nil=>
     subst C;have v:es=[]:=by cases es with |nil=>rfl|cons a es=>obtain⟨_,_,N,_⟩:=hr;cases N
     subst v;cases e;unfold Instr.findNow at d;cases d;trivial
    |cons e1 r1=>
     subst C;rw[Instr.findNow]at d;have:Instr.sameNow t (.agg x) e1.key=none:=by cases t<;>rfl
     rw[this]at d;cases d
  .cases c
 .cases c
end
end
section
variable{a:AV}{t:TypeId}{u:Value}
section
variable{P:Program}{K:Ctx}{Z:Nm}{h:AH}{w:World}{E:Env}
theorem Co(a b:Nat):Nat.beq a b=(a==b):=by
 rw[nC];simp
def Nk(a el:TypeId)(u:Value)(ok:Bool)(es:Array MapEntry):Sem Value:=do
 Instr.checkKey es.isEmpty 10000 a u
 match ← Instr.findKey a u es.toList with
 |some (_,v)=>Pure.pure (if ok then .tuple #[v,.bool true]else v)
 |none=>do
  let v ← zeroValue el
  Pure.pure (if ok then .tuple #[v,.bool false]else v)
theorem Pz(F:Fits P E)(R:K.P=P)(S:Sat K Z h w){x i:AV}{ok:Bool}{v:Value}(e:vF E h t x i ok=some a)(n:RV Z x v)(s:RV Z i u):
 fE P K Z w (Instr.lookup t v u ok) a:=by
 unfold vF at e;split at e
 .rename_i B el C
  have D:=(kM F C).1;split at e
  .rename_i T es G b
   obtain⟨l,b⟩:=iF b;obtain⟨z,H,m,_⟩:=nR (w:=w) (ι:=Z) F G;unfold Instr.lookup;refine fE.aG (aj.underlying D) ?_;have f:∀c:Array MapEntry,vW Z es c.toList->fE P K Z w (Nk B el u ok c) a:=by
    intro c y;unfold Nk;split at e
    .cases e
    .rename_i j val o
     obtain⟨g,r,k,d⟩:=qM (w:=w) F l s o y;cases e;cases r with
     |none=>exact d.elim
     |some q=>
      refine fE.aG (g _) ?_;refine fE.aG k ?_;cases ok with
      |true=>exact fE.pure (sZ (bQ d.2 (bQ mD bS)))
      |false=>exact fE.pure d.2
    .rename_i o
     obtain⟨g,r,k,d⟩:=qM (w:=w) F l s o y;cases e;cases r with
     |some q=>exact d.elim
     |none=>
      refine fE.aG (g _) ?_;refine fE.aG k ?_;refine fE.aG H ?_;cases ok with
      |true=>exact fE.pure (sZ (bQ m (bQ mD bS)))
      |false=>exact fE.pure m
   unfold M9 at b;split at b
   .cases b
    unfold RV at n;subst n;exact fE.aG (aj.pure _) (f #[] rfl)
   .rename_i id
    split at b
    .rename_i I ck J
     cases b;obtain⟨p,hp,rfl⟩:=qH n;obtain⟨q,ob,A,L,M,U,N,c,rfl,hr⟩:=S.at J trivial;obtain rfl:p=q:=by rw[hp]at A;exact aI A
     obtain⟨O,Q⟩:=aj.mR (P:=P) (K:=K) N (by simp) rfl L M;exact fE.kE O Q (fE.aG (aj.pure _) (f c hr))
    .cases b
   .cases b
  .cases e
 .cases e
theorem vW.find{q:AE->Bool}{q':MapEntry->Bool}(c:∀a e,e.born=a.born->q a=q' e):∀{es:List AE} {vs:List MapEntry},vW Z es vs->∀{a:AE},es.find? q=some a->∃e,vs.find? q'=some e∧RV Z a.key e.key∧RV Z a.val e.val
 |[],_,_,_,e=>by cases e
 |x::es,_,hr,a,e=>by
  obtain⟨y,r,rfl,h1,d,f,g⟩:=hr;rw[List.find?_cons]at e ⊢;rw[← c x y f];split at e
  .rename_i b;cases e;exact⟨y,by simp[b],h1,d⟩
  .rename_i b
   obtain⟨i,j,k⟩:=vW.find c g e;exact⟨i,by simp[b,j],k⟩
theorem Um(U:K.P=P)(S:Sat K Z h w){x:AV}{v:Value}(e:zf h x=some a)(C:RV Z x v):fE P K Z w (Instr.entry v) a:=by
 unfold zf at e;split at e
 .rename_i id
  obtain⟨p,hp,rfl⟩:=iV C;split at e
  .rename_i m s seen g D
   split at e
   .rename_i es ck st j k
    obtain⟨F,e2⟩:=iF e;obtain rfl:=ak F;clear e;cases l:es.find? λe=>Nat.beq e.born st with
    |none=>rw[l]at e2;cases e2
    |some en=>
     rw[l]at e2;simp at e2;subst e2;obtain⟨q,ob,B,G,H,V,n,b,o,_,rfl⟩:=S.at D trivial;obtain rfl:p=q:=by rw[hp]at B;exact aI B
     obtain⟨I,r,t⟩:=o m rfl;subst t;obtain⟨q',J,i,L,M,W,u,y,rfl,hr⟩:=S.at j trivial;obtain rfl:I=q':=by rw[r]at i;exact aI i
     obtain⟨N,O⟩:=aj.mR (P:=P) (K:=K) n (by simp) rfl G H;obtain⟨Q,R⟩:=aj.mR (P:=P) (K:=K) u (by simp) rfl L M;unfold Instr.entry;refine fE.kE N O ?_;have c:seen.toArray.back? =some st:=by simpa[Array.back?_eq_getElem?,List.getLast?_eq_getElem?]using k
     simp only[c];refine fE.kE Q R ?_;have d:∃f,y.find? (λe=>e.born==st)=some f∧RV Z en.key f.key∧RV Z en.val f.val:=by
      obtain⟨f,z,A⟩:=vW.find (q:=λe=>Nat.beq e.born st) (q':=λe=>e.born==st) (λa e h=>by rw[h];exact Co _ _) hr l;exact⟨f,by rw[← Array.find?_toList];exact z,A⟩
     obtain⟨f,z,A,T⟩:=d;simp only[bne_self_eq_false,gG,if_false,z];exact fE.pure (sZ (bQ A (bQ T bS)))
   .cases e
  .cases e
 .cases e
end
end
section
variable{ty:TypeId}
section
variable{P:Program}{K:Ctx}{Y:Nm}{h:AH}{w:World}{E:Env}{X:Tr AV}{Z:Operand->Value}
def NOk(P:Program)(K:Ctx)(Y:Nm)(w:World)(s:Sem Next)(a:AV):Prop:=
 ∃v es,aj P s w (.value v) w es∧RV Y a v∧∀e∈es,xE K w.heap.size e
theorem fE.next{s:Sem Value}{a:AV}(h:fE P K Y w s a):NOk P K Y w (do Pure.pure (.value (← s))) a:=by
 obtain⟨v,es,h1,b,c⟩:=h;refine⟨v,es,?_,b,c⟩;have:=aj.bind h1 (aj.pure (P:=P) (w:=w) (Next.value v)) (f:=λv=>Pure.pure (Next.value v));simpa using this
theorem uh(a:∀x,RV Y (ev X x) (Z x)):∀l:List Operand,dJ Y (evs X l) (l.map Z)
 |[]=>bS
 |x::l=>bQ (a x) (uh a l)
theorem LM(a:∀x,RV Y (ev X x) (Z x)):∀l:List (Nat×Operand),RVp Y (OU X l) (l.map λp=>(p.1,Z p.2))
 |[]=>rfl
 |x::l=>⟨Z x.2,_,rfl,a x.2,LM a l⟩
theorem Gp(a:∀x,RV Y (ev X x) (Z x))(o:Option Operand):SX Y (Lr X o) (o.map Z):=by
 cases o with
 |none=>rfl
 |some x=>exact⟨Z x,rfl,a x⟩
theorem abv{k a:IntKind}{x y:Int}{ts:Array TypeId}:aj P (Builtin.max_ ts ty #[.int k x,.int a y]) w (.int k (if y>x then y else x)) w []:=by
 unfold Builtin.max_;exact aj.aG (s:=Builtin.max2 (.int k x) (.int a y)) (aj.pure _) (aj.pure _)
theorem abu{k a:IntKind}{x y:Int}{ts:Array TypeId}:aj P (Builtin.min_ ts ty #[.int k x,.int a y]) w (.int k (if y<x then y else x)) w []:=by
 unfold Builtin.min_;exact aj.aG (s:=Builtin.min2 (.int k x) (.int a y)) (aj.pure _) (aj.pure _)
theorem TH(m:Of K P E)(F:Fits P E)(S:Sat K Y h w){b:Builtin}{as:List AV}{ts:List TypeId}{a:AV}{args:Array Value}{tys:Array TypeId}{ty:TypeId}{cs:Array Bool}
 (e:uH E h b as ts=some a)(f:dJ Y as args.toList)(l:tys.toList=ts):NOk P K Y w (builtin b tys ty cs args) a:=by
 obtain⟨tys⟩:=tys;obtain⟨args⟩:=args;simp only at f l;subst l;unfold uH at e;split at e
 .split at e
  .rename_i x t
   obtain⟨v,r,rfl,h1,d⟩:=aX f;obtain rfl:=bJ d;exact(YX m.P F S e h1).next
  .cases e
 .split at e
  .rename_i k x o y
   obtain⟨v,r,rfl,h1,d⟩:=aX f;obtain⟨q,s,rfl,i,j⟩:=aX d;obtain rfl:=bJ j;obtain rfl:=iB h1;obtain rfl:=iB i;obtain⟨u,rfl⟩:=dV e;refine fE.next ⟨_,[],abv,?_,by simp⟩
   have:(if y>x then y else x)=cond (decide (y>x)) y x:=by by_cases g:y>x<;>simp[g]
   rw[this];exact jA
  .cases e
 .split at e
  .rename_i k x o y
   obtain⟨v,r,rfl,h1,d⟩:=aX f;obtain⟨q,s,rfl,i,j⟩:=aX d;obtain rfl:=bJ j;obtain rfl:=iB h1;obtain rfl:=iB i;obtain⟨u,rfl⟩:=dV e;refine fE.next ⟨_,[],abu,?_,by simp⟩
   have:(if y<x then y else x)=cond (decide (y<x)) y x:=by by_cases g:y<x<;>simp[g]
   rw[this];exact jA
  .cases e
 .split at e
  .rename_i id off n c
   cases e;obtain⟨v,r,rfl,h1,d⟩:=aX f;obtain rfl:=bJ d;obtain⟨p,hp,cap,rfl,z,_⟩:=kK h1;refine fE.next ?_
   have g:cap≠0:=by omega
   have:Builtin.unsafeSliceData_ ⟨tys⟩ ty ⟨[Value.slice (some ⟨p.1,off,none⟩) (n+1) cap]⟩=Pure.pure (.pointer (some ⟨p.1,off,none⟩)):=by
    show(if cap≠0 then(Pure.pure (Value.pointer (some ⟨p.1,off,none⟩)):Sem Value)else _)=_;rw[aH g]
   rw[this];exact fE.pure (uW hp)
  .cases e
   obtain⟨v,r,rfl,h1,d⟩:=aX f;obtain rfl:=bJ d;unfold RV at h1;subst h1;exact fE.next (fE.pure (by unfold RV;rfl))
  .cases e
 .cases e
theorem MF(m:Of K P E)(F:Fits P E)(S:Sat K Y h w)(f:∀x,RV Y (ev X x) (Z x)){o:Oper}{a:AV}(e:fA o.op E X h=some a):NOk P K Y w (execOp Z o) a:=by
 unfold execOp;cases r:o.op<;>rw[r]at e<;>try (cases e;done)
 case move x=>cases e;exact⟨_,[],aj.pure _,f x,by simp⟩
 case assign x=>cases e;exact⟨_,[],aj.pure _,f x,by simp⟩
 case pick c x y=>
  have j:(match ev X c with | .bool t=>some (cond t (ev X x) (ev X y))|_=>none)=some a:=e;have n:=f c;cases z:ev X c<;>rw[z]at j n<;>try (cases j;done)
  rename_i t;have k:=pG n;cases j;refine⟨if t=true then Z x else Z y,[],?_,?_,by simp⟩
  .show aj P (do Pure.pure (Next.value (if ← asBool (Z c)then Z x else Z y))) w _ w []
   rw[k];exact aj.aG (a:=t) (aj.pure _) (aj.pure _)
  .cases t with
   |true=>exact f x
   |false=>exact f y
 case build t ps=>
  refine(Ux (vs:=ps.map λ(i,x)=>(i,Z x)) F e ?_).next
  have:=LM f ps.toList;simpa using this
 case load t x=>
  have j:(match ev X x with | .ptr id off=>loadT E h t id off|_=>none)=some a:=e;have q:=f x;cases z:ev X x<;>rw[z]at j q<;>try (cases j;done)
  obtain⟨p,hp,q⟩:=iV q;obtain⟨v,es,h1,l,A⟩:=Dq (P:=P) S m F hp j;refine fE.next ?_
  rw[q];exact⟨v,es,h1,l,A⟩
 case nilCheck x=>
  obtain⟨es,h1,l,rfl⟩:=KV (P:=P) (w:=w) (o:=o) e (f x) rfl r;unfold execOp at h1;rw[r]at h1;exact⟨_,[],h1,l,by simp⟩
 case binOp op t x y u=>exact(ZO F e (Vd (f x)) (Vd (f y))).next
 case unOp op t x=>exact(aaT e (f x)).next
 case convert s d x=>exact(WZ F e (f x)).next
 case makeInterface t x=>exact(I4 F e (f x)).next
 case makeFunc g x y=>
  cases g with
  |func g=>
   cases e;refine fE.next (fE.pure ?_)
   have h1:=uh f x.toList;have l:=uh f y.toList;unfold RV;exact⟨x.map Z,y.map Z,rfl,by simpa using h1,by simpa using l⟩
  |_=>cases e
 case slice t x lo hi mx=>exact(Tv F e (DK S m (f x)) (Gp f lo) (Gp f hi) (Gp f mx)).next
 case fieldAddr s x i=>exact(Jc F e (f x)).next
 case field t x i=>exact(Uj F e (f x)).next
 case indexAddr t x i=>exact(I6 F e (DK S m (f x)) (f i)).next
 case index t x i=>exact(Uf F e (f x) (f i)).next
 case lookup t x i ok=>exact(Pz F m.P S e (f x) (f i)).next
 case entry it=>exact(Um m.P S e (f it)).next
 case typeAssert x t u ok=>exact(P9 F e (f x)).next
 case extract x i=>exact(NR e (f x)).next
 case call c=>
  have j:(match Fa c with |some b=>uH E h b (evs X c.args.toList) c.argTypes.toList|none=>none)=some a:=e;cases k:Fa c with
  |none=>rw[k]at j;cases j
  |some b=>
   rw[k]at j;have n:c.callee= .builtin b:=by
    unfold Fa at k;split at k
    .rename_i b' n;cases k;exact n
    .cases k
   have h1:=uh f c.args.toList;have:=TH (ty:=o.type) (cs:=c.args.map λ| .const _=>true|_=>false) (args:=c.args.map Z) (tys:=c.argTypes) m F S j (by simpa using h1) rfl;obtain⟨v,es,l,A,B⟩:=this;refine⟨v,es,?_,A,B⟩;have hr:aj P (resolve Z c o.type) w { target:= .builtin b c.argTypes o.type (c.args.map λ| .const _=>true|_=>false),args:=c.args.map Z } w []:=by
    unfold resolve;rw[n];exact aj.pure _
   exact aj.aG hr l
end
end
section
variable{b i j n n':Nat}{o o0:AO}{ob:Obj}{p:Nat×Nat}
section
variable{P:Program}{K:Ctx}{Z:Nm}{h:AH}{w:World}{E:Env}
def upd(Z:Nm)(i:Nat)(p:Nat×Nat):Nm:=λj=>if j=i then some p else Z j
theorem nS(Z:Nm)(i:Nat)(p:Nat×Nat):upd Z i p i=some p:=by simp[upd]
theorem upd_ne{Z:Nm}(h:j≠i):upd Z i p j=Z j:=by simp[upd,h]
def Free(Z:Nm)(n m:Nat):Prop:=∀i,n<=i->i<m->Z i=none
theorem Free.sub{Z:Nm}{n m a b:Nat}(h:Free Z n m)(h1:n<=a)(c:b<=m):Free Z a b:=λi hi hj=>h i (by omega) (by omega)
structure Grow(Z ι':Nm)(n n':Nat):Prop where
 le:n<=n'
 same:∀i,i<n∨n'<=i->ι' i=Z i
theorem Grow.refl(Z:Nm)(n:Nat):Grow Z Z n n:=⟨ah _,λ_ _=>rfl⟩
theorem Grow.trans{Z ι' a:Nm}{n c b:Nat}(h:Grow Z ι' n c)(h':Grow ι' a c b):Grow Z a n b:=
 ⟨aQ h.le h'.le,λi hi=>(h'.same i (by have:=h.le;have:=h'.le;omega)).trans (h.same i (by have:=h.le;have:=h'.le;omega))⟩
theorem Grow.ext{Z ι':Nm}(h:Grow Z ι' n n')(b:Free Z n n'):Ext Z ι':=λi p hi=>by
 by_cases a:i<n∨n'<=i
 .rw[h.same i a];exact hi
 .rw[b i (by omega) (by omega)]at hi;cases hi
theorem Grow.free{Z ι':Nm}{n a m:Nat}(h:Grow Z ι' n a)(b:Free Z n m):Free ι' a m:=λi h1 c=>by
 rw[h.same i (.inr h1)];exact b i (by have:=h.le;omega) c
theorem Grow.upd{Z:Nm}{n:Nat}{p:Nat×Nat}:Grow Z (Ev.upd Z n p) n (n+1):=⟨Nat.le_succ _,λi hi=>upd_ne (by omega)⟩
theorem xV{Z:Nm}{i:Nat}{p:Nat×Nat}(h:Z i=none):Ext Z (upd Z i p):=λj q hj=>by
 by_cases a:j=i
 .subst a;rw[h]at hj;cases hj
 .rw[upd_ne a];exact hj
theorem Ey{o:Obj}(a:b<w.heap.size):(w.heap.push o)[b]? =w.heap[b]? :=by
 rw[kr];split
 .omega
 .rfl
theorem lt_of_heap(h:w.heap[b]? =some ob):b<w.heap.size:=by
 rw[aS]at h;exact h.1
theorem AH.pR{x:AO}(e:(h.put j o).tr.get i=some x):(i=j∧x=o)∨(i≠j∧h.tr.get i=some x):=by
 obtain⟨tr,nx,df⟩:=h;have a:(tr.set j o).get i=some x:=e;exact Tr.pU a
theorem AH.Pv:(h.new o).tr=(h.put h.nx o).tr:=by obtain⟨tr,nx,df⟩:=h;rfl
theorem AH.lQ{o:AO}:(h.new o).nx=h.nx+1:=by obtain⟨tr,nx,df⟩:=h;rfl
theorem AH.qF:(h.put j o).nx=h.nx:=by obtain⟨tr,nx,df⟩:=h;rfl
theorem AH.wu:(h.new o).df=h.df:=by obtain⟨tr,nx,df⟩:=h;rfl
theorem AH.uI:(h.put j o).df=h.df:=by obtain⟨tr,nx,df⟩:=h;rfl
theorem Sat.adv(S:Sat K Z h w){h':AH}(e:h'.tr=h.tr):Sat K Z h' w:=
 ⟨λi o hi=>S.objs i o (by rw[← e];exact hi),λi j o a p q h1 b=>S.inj i j o a p q (by rw[← e];exact h1) (by rw[← e];exact b),S.lo,S.bs,S.old,S.os,S.tape,S.output,S.jU⟩
theorem Sat.mono(S:Sat K Z h w){ι':Nm}(a:Ext Z ι'):Sat K ι' h w:=by
 refine⟨λi o hi g=>?_,λi j o d p q h1 b l1 l2 hp k c=>?_,S.lo,S.bs,S.old,S.os,S.tape,S.output,λl=>(S.jU l).trans a⟩
 .obtain⟨p,ob,h1,b,m,n,r⟩:=S.objs i o hi g
  exact⟨p,ob,a _ _ h1,b,m,n,r.mono a⟩
 .obtain⟨s,_,e,_⟩:=S.objs i o h1 l1
  obtain⟨q',_,f,_⟩:=S.objs j d b l2;have e1:=a _ _ e;rw[hp]at e1;cases e1;have e2:=a _ _ f;rw[k]at e2;cases e2;exact S.inj i j o d p q h1 b l1 l2 e f c
theorem Sat.push(S:Sat K Z h w)(ob:Obj):Sat K Z h { w with heap:=w.heap.push ob }:=by
 refine⟨λi o hi e=>?_,S.inj,?_,?_,λb a=>?_,S.os,S.tape,S.output,S.jU⟩
 .obtain⟨p,c,h1,f,g,d,j⟩:=S.objs i o hi e
  exact⟨p,c,h1,f,g,by simp only;rw[Ey (lt_of_heap d)];exact d,j⟩
 .simp only[nD];have:=S.lo;omega
 .intro b a;simp only[nD];have:=S.bs b a;omega
 .simp only
  rw[Ey (by have:=S.bs b a;omega)];exact S.old b a
theorem Sat.place(S:Sat K Z h w){i:Nat}{p:Nat×Nat}(hp:Z i=some p){ob:Obj}{o:AO}(s:w.heap[p.1]? =some ob)(h1:¬K.fz p.1)(t:K.own p.1)
 (m:∀j x q,h.tr.get j=some x->x.live->Z j=some q->q.1=p.1->j=i)(hr:RO K.P Z p.2 o ob):Sat K Z (h.put i o) w:=by
 refine⟨λj x e u=>?_,λa b x y q r e1 e2 l1 l2 l c d=>?_,S.lo,S.bs,S.old,S.os,S.tape,S.output,S.jU⟩
 .rcases AH.pR e with⟨rfl,rfl⟩|⟨v,z⟩
  .exact⟨p,ob,hp,h1,t,s,hr⟩
  .exact S.objs j x z u
 .rcases AH.pR e1 with⟨n,rfl⟩|⟨A,f⟩<;>rcases AH.pR e2 with⟨g,rfl⟩|⟨B,k⟩
  .rw[n,g]
  .subst n
   rw[hp]at l;cases l;exact aP (m b y r k l2 c d.symm) B
  .subst g
   rw[hp]at c;cases c;exact aP (m a x q f l1 l d) A
  .exact S.inj a b x y q r f k l1 l2 l c d
theorem Sat.Cn(S:Sat K Z h w)(e:Z h.nx=none){o:AO}{ob:Obj}{cap:Nat}(hr:RO K.P (upd Z h.nx (w.heap.size,cap)) cap o ob):
 Sat K (upd Z h.nx (w.heap.size,cap)) (h.new o) { w with heap:=w.heap.push ob }:=by
 have f:=(S.push ob).mono (xV (p:=(w.heap.size,cap)) e);refine(f.place (i:=h.nx) (p:=(w.heap.size,cap)) (ob:=ob) (o:=o) (nS _ _ _) (by simp) (λg=>lS _ (S.bs _ g)) (K.lN _ S.lo) (λj x q e1 l1 c b=>?_) hr).adv AH.Pv;by_cases a:j=h.nx
 .exact a
 .rw[upd_ne a]at c
  obtain⟨q',k,d,_,_,l,_⟩:=S.objs j x e1 l1;rw[c]at d;cases d;have:=lt_of_heap l;simp only at b;omega
theorem jI.Cn(ob:Obj)(K:Ctx):jI K w { w with heap:=w.heap.push ob } []:=
 ⟨by simp,λb a _=>Ey a,by simp⟩
theorem Sat.MI(S:Sat K Z h w)(hp:Z i=some p)(n:h.tr.get i=some o0)(c:o0.live)(hr:RO K.P Z p.2 o ob):
 Sat K Z (h.put i o) { w with heap:=w.heap.setIfInBounds p.1 ob }:=by
 obtain⟨G,H,h1,A,I,J,R⟩:=S.objs i o0 n c;obtain rfl:p=G:=by rw[hp]at h1;exact aI h1
 have s:p.1<w.heap.size:=lt_of_heap J;refine⟨λj x e B=>?_,λa b x y q r e1 e2 l1 l2 t d f=>?_,by simpa using S.lo,by simpa using S.bs,λb g=>?_,S.os,S.tape,S.output,S.jU⟩
 .rcases AH.pR e with⟨rfl,rfl⟩|⟨u,C⟩
  .exact⟨p,ob,hp,A,I,by simp[s],hr⟩
  .obtain⟨q,v,D,L,M,N,O⟩:=S.objs j x C B
   refine⟨q,v,D,L,M,?_,O⟩;have k:p.1≠q.1:=λz=>u (S.inj j i x o0 q p C n B c D hp z.symm);simp only;rw[bI k];exact N
 .rcases AH.pR e1 with⟨F,rfl⟩|⟨T,l⟩<;>rcases AH.pR e2 with⟨g,rfl⟩|⟨U,m⟩
  .rw[F,g]
  .exact S.inj a b o0 y q r (by rw[F];exact n) m c l2 t d f
  .exact S.inj a b x o0 q r l (by rw[g];exact n) l1 c t d f
  .exact S.inj a b x y q r l m l1 l2 t d f
 .simp only
  rw[bI (by intro Q;exact A (Q▸g))];exact S.old b g
theorem jI.MI(ob:Obj)(h1:¬K.fz b)(a:K.own b){es:List Event}(d:∀e∈es,xE K w.heap.size e):jI K w { w with heap:=w.heap.setIfInBounds b ob } es:=
 ⟨by simp,λc _ f=>bI (λg=>f (by subst g;exact⟨h1,a⟩)),by simpa using d⟩
theorem Sat.forget(S:Sat K Z h w)(i:Nat):Sat K Z (h.put i .dead) w:=by
 refine⟨λj x e g=>?_,λa b x y q r e1 e2 l1 l2 k hr c=>?_,S.lo,S.bs,S.old,S.os,S.tape,S.output,S.jU⟩
 .rcases AH.pR e with⟨rfl,rfl⟩|⟨_,l⟩
  .exact g.elim
  .exact S.objs j x l g
 .rcases AH.pR e1 with⟨_,rfl⟩|⟨_,d⟩
  .exact l1.elim
  .rcases AH.pR e2 with⟨_,rfl⟩|⟨_,f⟩
   .exact l2.elim
   .exact S.inj a b x y q r d f l1 l2 k hr c
theorem jI.refl(K:Ctx)(w:World){es:List Event}(a:∀e∈es,xE K w.heap.size e):jI K w w es:=⟨ah _,λ_ _ _=>rfl,a⟩
theorem jI.trans{w1 w2 d:World}{e1 e2:List Event}(h1:jI K w1 w2 e1)(c:jI K w2 d e2):jI K w1 d (e1++e2):=
 ⟨aQ h1.size c.size,λb f g=>(c.kept b (gZ f h1.size) g).trans (h1.kept b f g),λe a=>by
  rcases bF.1 a with a|a
  .exact(h1.evs e a).mono c.size
  .exact c.evs e a⟩
theorem jI.drawn(K:Ctx)(w:World)(d:Nat):jI K w { w with drawn:=d } []:=⟨ah _,λ_ _ _=>rfl,by simp⟩
end
end
section
variable{T el t:TypeId}{a v:AV}{b off:Nat}{c:Array Value}{fz:Nat×Nat}{l:List AV}{o:AO}{u:Value}
section
variable{P:Program}{K:Ctx}{ι:Nm}{h:AH}{w:World}{E:Env}
def fI(P:Program)(K:Ctx)(ι:Nm)(h:AH)(w:World)(s:Sem Value)(v:AV)(h':AH):Prop:=Free ι h.nx h'.nx->
 ∃ι' w' a es,aj P s w a w' es∧Grow ι ι' h.nx h'.nx∧Sat K ι' h' w'∧RV ι' v a∧jI K w w' es∧h'.df=h.df
def vV(P:Program)(K:Ctx)(ι:Nm)(h:AH)(w:World)(s:Sem Unit)(h':AH):Prop:=Free ι h.nx h'.nx->
 ∃ι' w' es,aj P s w () w' es∧Grow ι ι' h.nx h'.nx∧Sat K ι' h' w'∧jI K w w' es∧h'.df=h.df
theorem fI.aG{α:Type}{s:Sem α}{f:α->Sem Value}{x:α}{a:AV}{h':AH}(h1:aj P s w x w [])(b:fI P K ι h w (f x) a h'):fI P K ι h w (s>>=f) a h':=λc=>by
 obtain⟨ι',w',d,es,e,g⟩:=b c;exact⟨ι',w',d,es,aj.aG h1 e,g⟩
theorem fI.kE{α:Type}{s:Sem α}{f:α->Sem Value}{x:α}{a:AV}{h':AH}{e1:List Event}(h1:aj P s w x w e1)(b:∀e∈e1,xE K w.heap.size e)(c:fI P K ι h w (f x) a h'):fI P K ι h w (s>>=f) a h':=λd=>by
 obtain⟨ι',w',g,es,i,j,k,l,m,n⟩:=c d;exact⟨ι',w',g,e1++es,aj.bind h1 i,j,k,l,(jI.refl K w b).trans m,n⟩
theorem vV.aG{α:Type}{s:Sem α}{f:α->Sem Unit}{x:α}{h':AH}(h1:aj P s w x w [])(a:vV P K ι h w (f x) h'):vV P K ι h w (s>>=f) h':=λb=>by
 obtain⟨ι',w',es,c,d⟩:=a b;exact⟨ι',w',es,aj.aG h1 c,d⟩
theorem vV.kE{α:Type}{s:Sem α}{f:α->Sem Unit}{x:α}{h':AH}{e1:List Event}(h1:aj P s w x w e1)(a:∀e∈e1,xE K w.heap.size e)(b:vV P K ι h w (f x) h'):vV P K ι h w (s>>=f) h':=λc=>by
 obtain⟨ι',w',es,d,g,i,j,k⟩:=b c;exact⟨ι',w',e1++es,aj.bind h1 d,g,i,(jI.refl K w a).trans j,k⟩
theorem vV.val{s:Sem Unit}{h':AH}{f:Unit->Sem Value}(h1:vV P K ι h w s h')(c:∀ι',Ext ι ι'->RV ι' v u)(d:∀w,aj P (f ()) w u w []):fI P K ι h w (s>>=f) v h':=λa=>by
 obtain⟨ι',w',es,e,b,g,i,j⟩:=h1 a;exact⟨ι',w',u,es,by simpa using aj.bind e (d w'),b,g,c ι' (b.ext a),i,j⟩
theorem X7{cap:Nat}{vs:List AV}(h:dJ ι vs c.toList):RO P ι cap (.cells vs el false false) (.cells c el (0,0)):=
 ⟨c,0,0,rfl,⟨c.toList,[],by simp,h⟩,λ_=>by have:=h.length;simp at this;omega,λh=>(by cases h),λ_=>⟨λo _=>by omega,λ_=>⟨rfl,rfl⟩⟩⟩
theorem TM(S:Sat K ι h w)(a:ι h.nx=none){vs:List AV}{c:Array Value}{el:TypeId}(b:dJ ι vs c.toList):
 ∃ι' w',aj P (newRow el c) w ⟨w.heap.size,0,none⟩ w' []∧Grow ι ι' h.nx (h.nx+1)∧Sat K ι' (h.new (.cells vs el false false)) w'∧(∃k,ι' h.nx=some (w.heap.size,k))∧jI K w w' []:=by
 have d:Ext ι (upd ι h.nx (w.heap.size,0)):=xV a;refine⟨upd ι h.nx (w.heap.size,0),_,?_,Grow.upd,S.Cn a (cap:=0) (X7 (b.mono d)),⟨0,nS _ _ _⟩,jI.Cn _ K⟩;unfold newRow;exact aj.bind (e1:=[]) (e2:=[]) (aj.new _) (aj.pure _)
theorem CG(a:Free ι h.nx (h.new o).nx):ι h.nx=none:=a _ (ah _) (by rw[AH.lQ];omega)
theorem yt(S:Sat K ι h w){vs:List AV}(e:dJ ι vs c.toList){f:Addr->Sem Value}(g:Nat->Value)
 (i:∀b w,aj P (f ⟨b,0,none⟩) w (g b) w [])(j:∀ι' k b,ι' h.nx=some (b,k)->RV ι' a (g b)):
 fI P K ι h w (newRow el c>>=f) a (h.new (.cells vs el false false)):=λd=>by
 obtain⟨ι',w',h1,l,m,⟨k,n⟩,o⟩:=TM (P:=P) (el:=el) S (CG d) e;exact⟨ι',w',_,[],by simpa using aj.bind h1 (i _ w'),by rw[AH.lQ];exact l,m,j _ _ _ n,o,AH.wu⟩
theorem UA(F:Fits P E)(S:Sat K ι h w){h':AH}(e:sQ E h t=some (.val v h')):fI P K ι h w (Instr.alloc t true (.tuple #[])) v h':=by
 unfold sQ at e;split at e
 .rename_i ti c
  cases e;obtain⟨z,d,_,a,_⟩:=nR (w:=w) (ι:=ι) F c;refine fI.aG d ?_;exact yt S a (λb=> .pointer (some ⟨b,0,none⟩)) (λb w=>aj.pure _) (λι' k b f=>uW f)
 .cases e
theorem ZM(S:Sat K ι h w){x:AV}{h':AH}(e:Da E h t x=some (.val v h'))(a:RV ι x u):fI P K ι h w (Instr.box t u) v h':=by
 unfold Da at e;split at e
 .rename_i ti g
  obtain⟨c,e⟩:=cK e;cases e;have d:dJ ι x.cells u.cells.toList:=a.cells (.inl c);exact yt S d (λb=> .pointer (some ⟨b,0,none⟩)) (λb w=>aj.pure _) (λι' k b f=>uW f)
 .cases e
def wr(c:Array Value)(off:Nat):List Value->Array Value
 |[]=>c
 |v::vs=>wr (c.setIfInBounds off v) (off+1) vs
theorem BU(c:Array Value)(off:Nat)(vs:List Value):(wr c off vs).size=c.size:=by
 induction vs generalizing c off with
 |nil=>rfl
 |cons v vs a=>rw[wr,a];simp
theorem Tz(h:lu (a::l)=true){v:Value}(b:RV ι a v):(∀cs,v≠.agg cs)∧(∀cs,v≠.tuple cs):=by
 unfold lu at h;rw[av]at h;have h:=h.1;cases a<;>first
  |exact aP h Bool.false_ne_true
  |(unfold RV at b
    first
     |(refine⟨λcs h=>?_,λcs h=>?_⟩<;>(subst h;cases(b:false=true)))
     |(subst b;exact⟨λ_ h=>(by cases h),λ_ h=>(by cases h)⟩)
     |(obtain⟨_,_,rfl⟩:=b;exact⟨λ_ h=>(by cases h),λ_ h=>(by cases h)⟩)
     |(obtain⟨_,_,_,rfl,_⟩:=b;exact⟨λ_ h=>(by cases h),λ_ h=>(by cases h)⟩)
     |(obtain⟨_,_,rfl,_⟩:=b;exact⟨λ_ h=>(by cases h),λ_ h=>(by cases h)⟩)
     |(obtain⟨rfl,_,_⟩:=b;exact⟨λ_ h=>(by cases h),λ_ h=>(by cases h)⟩)
     |(obtain⟨_,rfl,_⟩:=b;exact⟨λ_ h=>(by cases h),λ_ h=>(by cases h)⟩))
theorem setCell_eq(e:w.heap[b]? =some (.cells c T fz))(v:Value):
 w.setCell ⟨b,off,none⟩ v={ w with heap:=w.heap.setIfInBounds b (.cells (c.setIfInBounds off v) T fz) }:=by
 unfold World.setCell;congr 1;apply mZ;intro i;rw[Array.getElem?_modify];by_cases h:b=i
 .subst h
  obtain⟨a,d⟩:=aS.1 e;simp[a,d]
 .simp[h]
theorem sW{b off:Nat}{T:TypeId}{lo hi:Nat}:∀(as:List AV) (vs:List Value) (k:Nat) (w:World) (c:Array Value),dJ ι as vs->lu as=true->
 w.heap[b]? =some (.cells c T (lo,hi))->off+k+vs.length<=c.size->(∀o,o<c.size->¬(lo<=o∧o<hi))->
 ∃es,aj P (storeCells ⟨b,off,none⟩ vs k) w () { w with heap:=w.heap.setIfInBounds b (.cells (wr c (off+k) vs) T (lo,hi)) } es∧∀e∈es,∃o,e=⟨.cell ⟨b,o,none⟩,true,false⟩
 |[],vs,k,w,c,q,_,d,_,_=>by
  rw[bJ q];have l:b<w.heap.size:=by rw[aS]at d;exact d.1
  have:w.heap.setIfInBounds b (.cells (wr c (off+k) []) T (lo,hi))=w.heap:=by
   apply mZ;intro i;rw[Array.getElem?_setIfInBounds];split
   .rename_i h;subst h
    rw[d];rfl
   .rfl
  rw[this];exact⟨[],aj.pure _,by simp⟩
 |a::as,vs,k,w,c,q,p,d,m,u=>by
  obtain⟨v,r,rfl,h1,y⟩:=aX q;obtain⟨z,A⟩:=Tz p h1;have s:lu as=true:=by unfold lu at p;rw[av]at p;exact p.2
  have l:b<w.heap.size:=by rw[aS]at d;exact d.1
  have x:off+k<c.size:=by simp at m;omega
  have g:w.cell? ⟨b,off+k,none⟩=some c[off+k]:=by rw[cell_of d];simp[x]
  have t:w.frozen? ⟨b,off+k,none⟩=false:=by
   rw[JH d];have:=u _ x;by_cases n:lo<=off+k
   .simp only[n,decide_true,Bool.true_and,gQ];omega
   .simp[n]
  have n:=aj.store (P:=P) g t z A;rw[setCell_eq d]at n;obtain⟨es,B,C⟩:=sW (b:=b) (off:=off) (T:=T) (lo:=lo) (hi:=hi) as r (k+1) { w with heap:=w.heap.setIfInBounds b (.cells (c.setIfInBounds (off+k) v) T (lo,hi)) } (c.setIfInBounds (off+k) v) y s
   (by simp[l]) (by simp only[gI]at m;simp only[Array.size_setIfInBounds];omega) (λo D=>u o (by simpa using D))
  refine⟨_,by
   unfold storeCells;rw[ng];have:=aj.bind (f:=λ_=>storeCells ⟨b,off,none⟩ r (k+1)) n B;rw[show wr c (off+k) (v::r)=wr (c.setIfInBounds (off+k) v) (off+(k+1)) r from rfl];have e2:(w.heap.setIfInBounds b (.cells (c.setIfInBounds (off+k) v) T (lo,hi))).setIfInBounds b (.cells (wr (c.setIfInBounds (off+k) v) (off+(k+1)) r) T (lo,hi))=w.heap.setIfInBounds b (.cells (wr (c.setIfInBounds (off+k) v) (off+(k+1)) r) T (lo,hi)):=by
    apply mZ;intro i;simp only[Array.getElem?_setIfInBounds];split<;>simp_all
   simp only[e2]at this;exact this,?_⟩
  intro e j;rcases bF.1 j with j|j
  .simp at j;subst j;exact⟨_,rfl⟩
  .exact C e j
theorem acv{as:List AV}{vs:List Value}{l:List AV}{c:Array Value}{l2:List Value}{off:Nat}(h:dJ ι as vs)(d:∃l1,c.toList=l1++l2∧dJ ι l l1)(b:off+vs.length<=l.length):
 ∃l1,(wr c off vs).toList=l1++l2∧dJ ι (setAt l off as) l1:=by
 induction as generalizing vs l c off with
 |nil=>rw[bJ h];exact d
 |cons a as e=>
  obtain⟨v,r,rfl,h1,f⟩:=aX h;obtain⟨l1,e1,e2⟩:=d;have g:=e2.length;refine e (l:=l.set off a) (c:=c.setIfInBounds off v) (off:=off+1) f ⟨l1.set off v,?_,e2.set _ h1⟩ (by simp at b ⊢;omega);rw[Array.toList_setIfInBounds,e1,List.set_append_left];simp at b;omega
theorem um(S:Sat K ι h w){id off:Nat}{as:List AV}{h':AH}{p:Nat×Nat}(hp:ι id=some p)(e:dD h id off as=some h'){vs:List Value}(k:dJ ι as vs):
 vV P K ι h w (storeCells ⟨p.1,off,none⟩ vs 0) h':=λ_=>by
 unfold dD at e;split at e
 .rename_i l el g d
  obtain⟨f,rfl⟩:=dV e;rw[av]at f;obtain⟨i,x⟩:=f;have i:=aF i;obtain⟨q,ob,s,j,a,m,y,c,lo,hi,rfl,⟨l1,l2,f,t⟩,h1,z,n⟩:=S.at d trivial;obtain rfl:p=q:=by rw[hp]at s;exact aI s
  have u:=k.length;have A:=t.length;have B:c.size=l1.length+l2.length:=by have:=fZ List.length f;simpa using this
  obtain⟨es,C,D⟩:=sW (P:=P) (ι:=ι) (b:=p.1) (off:=off) (T:=el) (lo:=lo) (hi:=hi) as vs 0 w c k x y (by omega) (n rfl).1;obtain⟨F,e1,e2⟩:=acv (c:=c) (off:=off) (l2:=l2) k ⟨l1,f,t⟩ (by omega);refine⟨ι,_,es,C,by rw[AH.qF];exact Grow.refl _ _,S.MI hp (AH.wV d trivial) trivial ⟨wr c off vs,lo,hi,rfl,⟨F,l2,e1,e2⟩,λr=>?_,λr=>?_,λv=>⟨λo d=>?_,(n v).2⟩⟩,jI.MI _ j a ?_,AH.uI⟩
  .rw[BU,Cg];exact h1 r
  .rw[BU];exact z r
  .rw[BU]at d;exact(n v).1 o d
  .intro e G
   obtain⟨o,rfl⟩:=D e G;exact⟨.inl ⟨j,a⟩,m⟩
 .cases e
theorem Tn(F:Fits P E)(S:Sat K ι h w){x:AV}{h':AH}(e:fU E h t a x=some (.val v h')){y:Value}(f:RV ι a u)(g:RV ι x y):
 vV P K ι h w (Instr.storeAt t u y) h'∧v=gH:=by
 unfold fU at e;split at e
 .rename_i ti id off ht
  obtain⟨i,e⟩:=cK e;obtain⟨j,e⟩:=iF e;cases b:dD h id off x.cells with
  |none=>rw[b]at e;cases e
  |some h1=>
   rw[b]at e;cases e;obtain⟨p,hp,rfl⟩:=iV f;obtain⟨c,d⟩:=H6 g i j;refine⟨?_,rfl⟩;show vV P K ι h w (Pure.pure (⟨p.1,off,none⟩:Addr)>>=λa=>storeVar t a y) h';refine vV.aG (aj.pure _) ?_;unfold storeVar;refine vV.aG (dL (lq F ht)) ?_;simp only[d,ne_eq,not_true_eq_false,if_false];exact um S hp b c
 .cases e
end
end
section
variable{c:Array Value}{o:AO}{t:TypeId}{u vk vm vx:Value}{v:AV}{vr:Option Value}
section
variable{P:Program}{K:Ctx}{Z:Nm}{h:AH}{w:World}{E:Env}
theorem uE(n:Nat)(z:List AV):(rep n z).length=n*z.length:=by
 induction n with
 |zero=>simp[rep]
 |succ n a=>rw[rep,fF,a,kF];omega
theorem KF{z:List AV}:∀(n i:Nat),i<n*z.length->(rep n z)[i]? =z[i % z.length]?
 |0,i,h=>by simp at h
 |n+1,i,h=>by
  rw[rep];by_cases hi:i<z.length
  .rw[aU hi,Nat.mod_eq_of_lt hi]
  .rw[aY (by omega),KF n (i - z.length) (by rw[Nat.succ_mul]at h;omega),Nat.mod_eq_sub_mod (a:=i) (by omega)]
theorem SS{z:List AV}(h:dJ Z z c.toList)(n k:Nat)(j:k=n*z.length):dJ Z (rep n z) ((Array.range k).map (c[·% c.size]!)).toList:=by
 have b:z.length=c.size:=by rw[h.length];simp
 refine dJ.yT (by simp[uE,j]) λi a v h1 f=>?_;have hi:i<n*z.length:=by
  have:=h1;rw[aJ]at this;obtain⟨d,_⟩:=this;rw[uE]at d;exact d
 rw[KF n i hi]at h1;obtain⟨l,e,hr⟩:=h.get h1;have:v=l:=by
  rw[bq,iR]at f;rw[bq]at e;have g:(Array.range k)[i]? =some i:=by rw[Array.getElem?_range];simp[j,hi]
  rw[g]at f;simp only[jX,bM]at f;rw[← f,← b];rw[Array.getElem!_eq_getD,bf,e];rfl
 rw[this];exact hr
theorem NC{n:Int}(h1:0<=n)(a:n<9223372036854775808):IntKind.i64.wrap n=n:=IntWalk.i64_in n (by omega)
theorem Ia(F:Fits P E)(S:Sat K Z h w){t:TypeId}{len:Nat}{ps:List (Nat×AV)}{vs:Array (Nat×Value)}{v:AV}{h':AH}(e:iG E h t len ps=some (.val v h'))(s:RVp Z ps vs.toList):
 fI P K Z h w (Instr.buildSlice t len vs) v h':=by
 unfold iG at e;split at e
 .rename_i el u
  split at e
  .rename_i a o
   obtain⟨p,e⟩:=cK e;have p:¬(65536<len*a.size):=λh=>by rw[← cO,p]at h;cases h
   cases f:y9 (λi=>some (i*a.size,a.size)) (rep len a.zero) ps with
   |none=>rw[f]at e;cases e
   |some r=>
    rw[f]at e;cases e;obtain⟨z,x,_,g,y,d⟩:=nR (w:=w) (ι:=Z) F o;unfold Instr.buildSlice;refine fI.aG (aj.underlying (dP F u)) ?_;refine fI.aG (dL (lq F o)) ?_;have j:¬(len*a.size>2 ^ 24):=by omega
    simp only[j,if_false];have tail:∀c:Array Value,dJ Z (rep len a.zero) ((Array.range (len*a.size)).map (c[·% c.size]!)).toList->fI P K Z h w (do
     let some cells := Instr.fill (λ i => some (i * a.size, a.size)) ((Array.range (len * a.size)).map (c[· % c.size]!)) vs.toList | stuck "buildSlice: a part of the wrong size"
     Pure.pure (.slice (some (← newRow el cells)) len len)) (.sl h.nx 0 len (some len)) (h.new (.cells r el false false)):=by
     intro c l;obtain⟨C,m,hr⟩:=CO (place:=λi=>some (i*a.size,a.size)) (λi q A=>A) f s l;simp only[m];exact yt S hr (λb=> .slice (some ⟨b,0,none⟩) len len) (λb w=>aj.pure _) (λι' k b n=>by
      unfold RV;exact⟨_,n,len,rfl,ah _,λk n=>by cases n;rfl,λB=>by cases B⟩)
    by_cases h0:len*a.size=0
    .rw[aH h0]
     refine fI.aG (aj.pure _) (tail #[] ?_);rw[h0];have:rep len a.zero=[]:=bB.1 (by rw[uE,d];exact h0);rw[this];simp;exact bS
    .rw[au h0]
     exact fI.aG x (fI.aG (aj.pure _) (tail z.cells (SS g len _ (by rw[d]))))
  .cases e
 .cases e
theorem IZ(F:Fits P E)(S:Sat K Z h w){l c:AV}{C D:Value}{h':AH}(e:eF E h t l c=some (.val v h'))(I:RV Z l C)(J:RV Z c D):
 fI P K Z h w (Instr.makeSlice t C D) v h':=by
 unfold eF at e;split at e
 .rename_i el k n Y m L
  split at e
  .rename_i g G
   obtain⟨H,e⟩:=dV e;cases e;rw[av,gM]at H;obtain⟨⟨M,N,O⟩,d⟩:=H;have d:=aF d;obtain rfl:=iB I;obtain rfl:=iB J;obtain⟨i,z,hi,hs,q,Q,_,r,R,j⟩:=(lq F G).info;have s:aj P (zeroValue el) w z w []:=aj.zeroValue hi Q;unfold Instr.makeSlice;refine fI.aG (aj.underlying (dP F L)) ?_;refine fI.aG (x:=n) (aj.pure _) ?_;refine fI.aG (x:=m) (aj.pure _) ?_;refine fI.aG (aj.typeInfo hi) ?_;have T:IntKind.i64.wrap n=n:=NC (by omega) (by omega);have U:IntKind.i64.wrap m=m:=NC (by omega) (by omega);have V:(i.bytes:Int)*m<=4096*1048576:=by
    rw[q];exact Int.mul_le_mul (by omega) O (by omega) (by omega)
   have o:¬((i.bytes:Int)*m>2 ^ 48):=by omega
   have u:¬n<0:=by omega
   have y:¬m<0:=by omega
   have p:¬n>m:=by omega
   simp only[T,U,o,u,y,p,decide_false,Bool.or_false,gG,if_false];have f:¬(m.toNat*i.bytes>roomBytes):=by
    unfold roomBytes;have h1:m.toNat<=1048576:=by omega
    have W:i.bytes<=4096:=by omega
    have:=Nat.mul_le_mul h1 W;omega
   refine fI.aG (x:=()) ?_ ?_
   .unfold askRoom;rw[au f];exact aj.pure _
   refine fI.aG (dL (lq F G)) ?_;have tail:∀c:Array Value,dJ Z (rep m.toNat g.zero) ((Array.range (m.toNat*g.size)).map (c[·% c.size]!)).toList->fI P K Z h w (do
    let a ← newRow el ((Array.range (m.toNat*g.size)).map (c[·% c.size]!))
    Pure.pure (.slice (some a) n.toNat m.toNat)) (.sl h.nx 0 n.toNat (some m.toNat)) (h.new (.cells (rep m.toNat g.zero) el false false)):=by
    intro c A;exact yt S A (λb=> .slice (some ⟨b,0,none⟩) n.toNat m.toNat) (λb w=>aj.pure _) (λι' k b B=>by
     unfold RV;exact⟨_,B,m.toNat,rfl,by omega,λk B=>by cases B;rfl,λX=>by cases X⟩)
   by_cases h0:m.toNat*g.size=0
   .rw[aH h0]
    refine fI.aG (aj.pure _) (tail #[] ?_);rw[h0];have:rep m.toNat g.zero=[]:=bB.1 (by rw[uE,j];exact h0);rw[this];simp;exact bS
   .rw[au h0]
    exact fI.aG s (fI.aG (aj.pure _) (tail z.cells (SS (r Z) m.toNat _ (by rw[j]))))
  .cases e
 .cases e
theorem HV{b:Bool}{x:AO}(e:cond b o .dead=x)(a:x.live):b=true∧o=x:=by
 cases b with
 |true=>exact⟨rfl,e⟩
 |false=>subst e;exact a.elim
theorem jS(S:Sat K Z h w){id:Nat}{p:Nat×Nat}(hp:Z id=some p){i:AO}(j:h.obj id=i)(b:i.live){a:Obj}(r:w.heap[p.1]? =some a)(d:∀c e f,a≠.cells c e f)
 {o:AO}{ob:Obj}(hr:RO K.P Z p.2 o ob)(g:ob.isChan=false):vV P K Z h w (Go.setObj p.1 ob) (h.put id o):=λ_=>by
 obtain⟨q,s,k,l,m,t,u,_⟩:=S.at j b;obtain rfl:p=q:=by rw[hp]at k;exact aI k
 refine⟨Z,_,_,aj.setObj r d,by rw[AH.qF];exact Grow.refl _ _,S.MI hp (AH.wV j b) b hr,jI.MI _ l m ?_,AH.uI⟩;intro e n;simp only[bR]at n;subst n;exact⟨l,m,t,g⟩
theorem Ju(S:Sat K Z h w){f:Nat->Sem Value}(d:∀b w,aj P (f b) w (.map (some b)) w []):fI P K Z h w (newObj (.map #[] 0)>>=f) (.map h.nx) (h.new (.map [] 0)):=λa=>by
 have c:=CG a;refine⟨upd Z h.nx (w.heap.size,0),{ w with heap:=w.heap.push (.map #[] 0) },.map (some w.heap.size),[],?_,by rw[AH.lQ];exact Grow.upd,S.Cn c ⟨#[],rfl,rfl⟩,?_,jI.Cn _ K,AH.wu⟩
 .exact aj.bind (e1:=[]) (e2:=[]) (aj.new _) (d _ _)
 .unfold RV;exact⟨_,nS _ _ _,rfl⟩
theorem Nb(F:Fits P E)(S:Sat K Z h w){r:Option AV}{h':AH}(e:j5 E h t r=some (.val v h'))(hr:SX Z r vr):
 fI P K Z h w (Instr.makeMap t vr) v h':=by
 unfold j5 at e;split at e
 .cases e
  have:vr=none:=hr;subst this;unfold Instr.makeMap;exact Ju S (λb w=>aj.pure _)
 .rename_i k n
  split at e
  .rename_i d el a
   cases e;obtain⟨u,rfl,c⟩:=hr;obtain rfl:=iB c;unfold Instr.makeMap;refine fI.aG (aj.underlying (kM F a).1) ?_;refine fI.aG (x:=n) (aj.pure _) ?_;exact Ju S (λb w=>aj.pure _)
  .cases e
 .cases e
theorem NU{x y:AV}{v:Value}(e:OV x y=some true)(c:RV Z x v)(d:RV Z y u):v=u∧∀n,Instr.sameBits n v v=true:=by
 cases x<;>cases y<;>try (cases e;done)
 .rename_i a b
  simp only[OV,bM,fK]at e;subst e;rw[pG c,pG d];exact⟨rfl,λn=>by cases n<;>simp[Instr.sameBits]⟩
 .rename_i k a g b
  simp only[OV]at e;obtain⟨h1,f⟩:=dV e;rw[mF h1]at c;simp only[fK]at f;subst f;rw[iB c,iB d];exact⟨rfl,λn=>by cases n<;>simp[Instr.sameBits]⟩
 .rename_i a b
  simp only[OV,bM,fK]at e;subst e;rw[mq c,mq d];refine⟨rfl,λn=>?_⟩;have:((⟨a.toArray⟩:ByteArray)==⟨a.toArray⟩)=true:=by rw[bytes_beq];simp
  cases n<;>simpa[Instr.sameBits]using this
theorem NV:∀{l m:List AV} {vs c:List Value},AP l m=some true->dJ Z l vs->dJ Z m c->vs=c∧∀n,(vs.zip vs).all (λ(x,y)=>Instr.sameBits n x y)=true
 |[],[],vs,c,_,h1,d=>by rw[bJ h1,bJ d];exact⟨rfl,λ_=>rfl⟩
 |[],_::_,_,_,e,_,_=>by cases e
 |_::_,[],_,_,e,_,_=>by cases e
 |a::l,b::m,vs,c,e,h1,d=>by
  obtain⟨v,r,rfl,f,g⟩:=aX h1;obtain⟨u,s,rfl,i,j⟩:=aX d;simp only[AP]at e;split at e
  .cases e
  .split at e<;>cases e
  .rename_i k
   obtain⟨o,p⟩:=NU k f i;obtain⟨q,t⟩:=NV e g j;subst o;subst q;exact⟨rfl,λn=>by simp only[List.zip_cons_cons,List.all_cons,p n,t n,Bool.and_self]⟩
theorem NW{x y:AV}{v:Value}(e:eqK x y=some true)(f:RV Z x v)(g:RV Z y u):v=u∧Instr.sameBits 10000 v v=true:=by
 unfold eqK at e;split at e
 .obtain⟨c,rfl,i⟩:=qP f
  obtain⟨d,rfl,j⟩:=qP g;obtain⟨h1,a⟩:=NV e i j;have b:c=d:=bU.1 h1;subst b;refine⟨rfl,?_⟩;show Instr.sameBits (9999+1) _ _=true;rw[Instr.sameBits];simp only[beq_self_eq_true,Bool.true_and];exact a 9999
 .obtain⟨h1,a⟩:=NU e f g
  exact⟨h1,a 10000⟩
theorem Nr{v:Value}(a:Instr.sameBits 10000 v v=true):aj P (Instr.keyThatStays v v) w v w []:=by
 unfold Instr.keyThatStays;rw[aH a];exact aj.pure _
theorem Hr{k:AV}:∀{es:List AE} {j i:Nat} {v:AV},yx k es j=some (some (i,v))->∃a,es[i - j]? =some a∧eqK k a.key=some true∧v=a.val∧j<=i
 |[],_,_,_,e=>by cases e
 |a::es,j,i,v,e=>by
  simp only[yx]at e;split at e
  .cases e
  .rename_i c
   cases e;exact⟨a,by simp,c,rfl,ah _⟩
  .obtain⟨b,h1,d,f,g⟩:=Hr e
   refine⟨b,?_,d,f,by omega⟩;have:i - j=(i - (j+1))+1:=by omega
   rw[this];simpa using h1
theorem vW.get{l:List AE}{es:List MapEntry}(hr:vW Z l es){i:Nat}{a:AE}(hi:l[i]? =some a):∃e,es[i]? =some e∧RV Z a.key e.key∧RV Z a.val e.val∧e.born=a.born:=by
 induction l generalizing es i with
 |nil=>simp at hi
 |cons x l b=>
  obtain⟨e,r,rfl,h1,c,d,f⟩:=hr;cases i with
  |zero=>simp at hi;subst hi;exact⟨e,rfl,h1,c,d⟩
  |succ i=>simp at hi;simpa using b f hi
theorem vW.modify{l:List AE}{es:List MapEntry}(hr:vW Z l es)(i:Nat){f:AE->AE}{g:MapEntry->MapEntry}
 (b:∀a e,l[i]? =some a->es[i]? =some e->RV Z a.key e.key->RV Z a.val e.val->e.born=a.born->RV Z (f a).key (g e).key∧RV Z (f a).val (g e).val∧(g e).born=(f a).born):
 vW Z (l.modify i f) (es.modify i g):=by
 induction l generalizing es i with
 |nil=>
  have:es=[]:=hr;subst this;simp;rfl
 |cons x l k=>
  obtain⟨e,r,rfl,h1,c,d,j⟩:=hr;cases i with
  |zero=>
   obtain⟨m,n,o⟩:=b x e rfl rfl h1 c d;rw[List.modify_zero_cons,List.modify_zero_cons];exact⟨_,_,rfl,m,n,o,j⟩
  |succ i=>
   rw[List.modify_succ_cons,List.modify_succ_cons];exact⟨e,_,rfl,h1,c,d,k j i λa p q s=>b a p (by simpa using q) (by simpa using s)⟩
theorem vW.append{l m:List AE}{es b:List MapEntry}(hr:vW Z l es)(a:vW Z m b):vW Z (l++m) (es++b):=by
 induction l generalizing es with
 |nil=>
  have:es=[]:=hr;subst this;exact a
 |cons x l c=>
  obtain⟨e,r,rfl,h1,d,f,g⟩:=hr;exact⟨e,_,rfl,h1,d,f,c g⟩
theorem vW.erase{l:List AE}{es:List MapEntry}(hr:vW Z l es)(i:Nat):vW Z (l.eraseIdx i) (es.eraseIdx i):=by
 induction l generalizing es i with
 |nil=>
  have:es=[]:=hr;subst this;simp;rfl
 |cons x l b=>
  obtain⟨e,r,rfl,h1,c,d,a⟩:=hr;cases i with
  |zero=>simpa using a
  |succ i=>simp only[List.eraseIdx_cons_succ];exact⟨e,_,rfl,h1,c,d,b a i⟩
theorem AB(F:Fits P E)(S:Sat K Z h w){m k x:AV}{h':AH}(e:iZ E h t m k x=some (.val v h'))(J:RV Z m vm)(j:RV Z k vk)(C:RV Z x vx):
 vV P K Z h w (Instr.mapUpdate t vm vk vx) h'∧v=gH:=by
 unfold iZ at e;split at e
 .rename_i R el id hd
  split at e
  .rename_i es ck l
   obtain⟨n,l⟩:=HV l trivial;obtain⟨p,hp,rfl⟩:=qH J;obtain⟨q,ob,D,L,M,T,s,u,rfl,hr⟩:=S.at l trivial;obtain rfl:p=q:=by rw[hp]at D;exact aI D
   obtain⟨G,H⟩:=aj.mR (P:=P) (K:=K) s (by simp) rfl L M;split at e
   .cases e
   .rename_i i U r
    cases e;refine⟨?_,rfl⟩;obtain⟨c,y,d,b⟩:=qM (w:=w) F n j r hr;cases y with
    |none=>exact b.elim
    |some q'=>
     obtain⟨V,W⟩:=q';obtain⟨hi,_⟩:=b;simp only at hi;subst hi;obtain⟨a,I,z,_⟩:=Hr r;simp only[Nat.sub_zero]at I;obtain⟨en,A,B,N,O⟩:=hr.get I;obtain⟨f,g⟩:=NW z j B;have o:((u[i]?).map (·.key)).getD vk=vk:=by
      rw[← bq,A];simp[f]
     unfold Instr.mapUpdate;refine vV.aG (aj.underlying (kM F hd).1) ?_;refine vV.kE G H ?_;refine vV.aG (c _) ?_;refine vV.aG d ?_;simp only[o];refine vV.aG (Nr g) ?_;refine jS S hp l trivial s (by simp) ⟨_,rfl,?_⟩ rfl;rw[Array.toList_modify];exact hr.modify i λa e _ _ _ _ Q=>⟨j,C,Q⟩
   .rename_i r
    cases e;refine⟨?_,rfl⟩;obtain⟨c,y,d,b⟩:=qM (w:=w) F n j r hr;cases y with
    |some q'=>exact b.elim
    |none=>
     unfold Instr.mapUpdate;refine vV.aG (aj.underlying (kM F hd).1) ?_;refine vV.kE G H ?_;refine vV.aG (c _) ?_;refine vV.aG d ?_;refine jS S hp l trivial s (by simp) ⟨_,rfl,?_⟩ rfl;rw[Array.toList_push];exact hr.append ⟨_,[],rfl,j,C,rfl,rfl⟩
  .cases e
 .cases e
theorem KZ(F:Fits P E)(S:Sat K Z h w){m k:AV}{h':AH}(e:nH E h t m k=some (.val v h'))(T:RV Z m vm)(n:RV Z k vk):
 fI P K Z h w (Instr.mapEntry t vm vk) v h':=by
 unfold nH at e;split at e
 .rename_i kt el id hd
  split at e
  .rename_i es ck ei o U
   obtain⟨r,o⟩:=HV o trivial;obtain⟨p,hp,rfl⟩:=qH T;obtain⟨q,ob,O,V,W,b3,C,s,rfl,hr⟩:=S.at o trivial;obtain rfl:p=q:=by rw[hp]at O;exact aI O
   obtain⟨Q,R⟩:=aj.mR (P:=P) (K:=K) C (by simp) rfl V W;split at e
   .cases e
   .rename_i i v' B
    split at e
    .rename_i D c
     cases e;obtain⟨d,G,f,b⟩:=qM (w:=w) F r n B hr;cases G with
     |none=>exact b.elim
     |some q'=>
      obtain⟨i',u'⟩:=q';obtain⟨hi,H⟩:=b;simp only at hi;subst hi;obtain⟨a,I,J,_⟩:=Hr B;simp only[Nat.sub_zero]at I;rw[c]at I;cases I;obtain⟨en,u,L,X,M⟩:=hr.get c;obtain⟨g,j⟩:=NW J n L;have y:((s[i]?).map (·.key)).getD vk=vk:=by
       rw[← bq,u];simp[g]
      have l:((s[i]?).map (λx=>(x.born:Int))).getD 0=D.born:=by
       rw[← bq,u];simp[M]
      unfold Instr.mapEntry;refine fI.aG (aj.underlying (kM F hd).1) ?_;refine fI.kE Q R ?_;refine fI.aG (d _) ?_;refine fI.aG f ?_;simp only[y,l];refine fI.aG (Nr j) ?_;refine vV.val (jS S hp o trivial C (by simp) ⟨_,rfl,?_⟩ rfl) (λι' N=>sZ (bQ (H.mono N) (bQ jA bS))) (λw=>aj.pure _);rw[Array.toList_modify];exact hr.modify i λa e _ _ _ Y h3=>⟨n,Y,h3⟩
    .cases e
   .rename_i B
    cases e;obtain⟨z,hz,A,_⟩:=nR (w:=w) (ι:=Z) F U;obtain⟨d,G,f,b⟩:=qM (w:=w) F r n B hr;cases G with
    |some q'=>exact b.elim
    |none=>
     unfold Instr.mapEntry;refine fI.aG (aj.underlying (kM F hd).1) ?_;refine fI.kE Q R ?_;refine fI.aG (d _) ?_;refine fI.aG f ?_;refine fI.aG hz ?_;refine vV.val (jS S hp o trivial C (by simp) ⟨_,rfl,?_⟩ rfl) (λι' N=>sZ (bQ (A.mono N) (bQ jA bS))) (λw=>aj.pure _);rw[Array.toList_push];exact hr.append ⟨_,[],rfl,n,A,rfl,rfl⟩
  .cases e
 .cases e
theorem vW.findIdx{q:AE->Bool}{q':MapEntry->Bool}(b:∀a e,e.born=a.born->q a=q' e){l:List AE}{es:List MapEntry}(hr:vW Z l es):l.findIdx? q=es.findIdx? q':=by
 induction l generalizing es with
 |nil=>
  have:es=[]:=hr;subst this;rfl
 |cons x l c=>
  obtain⟨e,r,rfl,h1,g,d,f⟩:=hr;rw[List.findIdx?_cons,List.findIdx?_cons,b x e d,c f]
theorem Hy(S:Sat K Z h w){m s x:AV}{vs:Value}{h':AH}(e:kD h m s x=some (.val v h'))(j:RV Z m vm)(n:RV Z s vs)(o:RV Z x vx):
 vV P K Z h w (Instr.entryStore t vm vs vx) h'∧v=gH:=by
 unfold kD at e;split at e
 .rename_i id k st
  split at e
  .rename_i es ck d
   split at e
   .rename_i i r
    cases e;refine⟨?_,rfl⟩;obtain⟨p,hp,rfl⟩:=qH j;obtain rfl:=iB n;obtain⟨q,ob,f,u,y,D,g,b,rfl,hr⟩:=S.at d trivial;obtain rfl:p=q:=by rw[hp]at f;exact aI f
    obtain⟨z,A⟩:=aj.mR (P:=P) (K:=K) g (by simp) rfl u y;unfold Instr.entryStore;refine vV.kE z A ?_;refine vV.aG (x:=st) (aj.pure _) ?_;have c:b.findIdx? (λe=>(e.born:Int)==st)=some i:=by
     have:=hr.findIdx (q:=λe=>(e.born:Int)==st) (q':=λe=>(e.born:Int)==st) (λa e h=>by rw[h]);rw[r]at this;have B:b.findIdx? (λe=>(e.born:Int)==st)=b.toList.findIdx? (λe=>(e.born:Int)==st):=by
      rcases b with⟨l⟩;simp
     rw[B,← this]
    simp only[c];refine jS S hp d trivial g (by simp) ⟨_,rfl,?_⟩ rfl;rw[Array.toList_modify];exact hr.modify i λa e _ _ h1 _ C=>⟨h1,o,C⟩
   .cases e
  .cases e
 .cases e
theorem P6(F:Fits P E)(S:Sat K Z h w){t ty:TypeId}{m k:AV}{n y:Value}{v:AV}{h':AH}(e:xW E h t m k=some (.val v h'))(f:RV Z m n)(o:RV Z k y):
 fI P K Z h w (Builtin.delete_ #[t] ty #[n,y]) v h':=by
 unfold xW at e;split at e
 .rename_i C el l
  obtain⟨b,e⟩:=dV e;cases e;have f:n= .map none:=by unfold RV at f;exact f
  subst f;have a:=(qM (w:=w) F b o (es:=[]) (vs:=[]) (r:=none) rfl rfl).1;unfold Builtin.delete_;refine fI.aG (aj.underlying (kM F l).1) ?_;refine fI.aG (a _) ?_;exact λ_=>⟨Z,w,_,[],aj.pure _,Grow.refl _ _,S,kS,jI.refl K w (by simp),rfl⟩
 .rename_i C el id l
  split at e
  .rename_i es ck g
   obtain⟨b,g⟩:=HV g trivial;obtain⟨p,hp,rfl⟩:=qH f;obtain⟨q,ob,z,D,G,I,s,j,rfl,hr⟩:=S.at g trivial;obtain rfl:p=q:=by rw[hp]at z;exact aI z
   obtain⟨A,B⟩:=aj.mR (P:=P) (K:=K) s (by simp) rfl D G;split at e
   .cases e
   .rename_i i J u
    cases e;obtain⟨a,x,d,c⟩:=qM (w:=w) F b o u hr;cases x with
    |none=>exact c.elim
    |some q'=>
     obtain⟨L,M⟩:=q';obtain⟨hi,_⟩:=c;simp only at hi;subst hi;unfold Builtin.delete_;refine fI.aG (aj.underlying (kM F l).1) ?_;refine fI.kE A B ?_;refine fI.aG (a _) ?_;refine fI.aG d ?_;refine vV.val (jS S hp g trivial s (by simp) ⟨_,rfl,?_⟩ rfl) (λι' H=>kS) (λw=>aj.pure _);have:(j.eraseIdxIfInBounds i).toList=j.toList.eraseIdx i:=by simp
     rw[this];exact hr.erase i
   .rename_i u
    cases e;obtain⟨a,x,d,c⟩:=qM (w:=w) F b o u hr;cases x with
    |some q'=>exact c.elim
    |none=>
     unfold Builtin.delete_;refine fI.aG (aj.underlying (kM F l).1) ?_;refine fI.kE A B ?_;refine fI.aG (a _) ?_;refine fI.aG d ?_;exact vV.val (jS S hp g trivial s (by simp) ⟨_,rfl,hr⟩ rfl) (λι' H=>kS) (λw=>aj.pure _)
  .cases e
 .cases e
theorem IK(z:Array Value)(n:Nat):(Builtin.zeroCells z (n+1)).toList=z.toList++(Builtin.zeroCells z n).toList:=by
 unfold Builtin.zeroCells;apply List.ext_getElem?;intro i;simp only[Array.toList_map,Array.toList_range,eu];by_cases h:i<z.size
 .rw[aU (by simpa using h),List.getElem?_range (by rw[Nat.succ_mul];omega)]
  simp only[jX,Nat.mod_eq_of_lt h,bq];rw[bX h,getElem!_pos z i h]
 .rw[aY (by simpa using h)]
  simp only[Array.length_toList,eu];by_cases a:i<(n+1)*z.size
  .rw[List.getElem?_range a,List.getElem?_range (by rw[Nat.succ_mul]at a;omega)]
   simp only[jX];rw[Nat.mod_eq_sub_mod (by omega)]
  .rw[gK (by simpa using a),gK (by simp;rw[Nat.succ_mul]at a;omega)]
theorem BS{zs:List AV}{z:Array Value}(a:dJ Z zs z.toList):∀n,dJ Z (rep n zs) (Builtin.zeroCells z n).toList
 |0=>by
  have:(Builtin.zeroCells z 0).toList=[]:=by unfold Builtin.zeroCells;simp
  rw[this];exact bS
 |n+1=>by
  rw[IK];exact a.append (BS a n)
theorem Uw(F:Fits P E)(S:Sat K Z h w){t ty:TypeId}{m:AV}{c:Value}{v:AV}{h':AH}(e:xZ E h t m=some (.val v h'))(d:RV Z m c):
 fI P K Z h w (Builtin.clear_ #[t] ty #[c]) v h':=by
 unfold xZ at e;split at e
 .rename_i C el id hd
  split at e
  .rename_i es ck f
   cases e;obtain⟨p,hp,rfl⟩:=qH d;obtain⟨q,ob,g,j,k,D,i,l,rfl,hr⟩:=S.at f trivial;obtain rfl:p=q:=by rw[hp]at g;exact aI g
   obtain⟨o,r⟩:=aj.mR (P:=P) (K:=K) i (by simp) rfl j k;unfold Builtin.clear_;refine fI.aG (aj.underlying (kM F hd).1) ?_;refine fI.kE o r ?_;exact vV.val (jS S hp f trivial i (by simp) ⟨#[],rfl,rfl⟩ rfl) (λι' s=>kS) (λw=>aj.pure _)
  .cases e
 .rename_i el id off n cp hd
  split at e
  .rename_i u x
   cases b:Nat.beq n 0 with
   |true=>rw[b]at e;cases e
   |false=>
    rw[b]at e;simp only[bC]at e;cases a:dD h id off (rep n u.zero)with
    |none=>rw[a]at e;cases e
    |some h1=>
     rw[a]at e;cases e;obtain⟨p,hp,cap,rfl,_⟩:=kK d;obtain⟨z,y,_,A,_⟩:=nR (ι:=Z) (w:=w) F x;have B:n≠0:=λh=>by rw[h]at b;cases b
     unfold Builtin.clear_;refine fI.aG (aj.underlying (dP F hd)) ?_;obtain⟨m,rfl⟩:∃m,n=m+1:=⟨n - 1,by omega⟩;refine fI.aG y ?_;exact vV.val (um S hp a (BS A _)) (λι' s=>kS) (λw=>aj.pure _)
  .cases e
 .cases e
end
end
section
variable{a v:AV}{d:Nat}{o:AO}{ob:Obj}{t:TypeId}{vx:Value}
section
variable{P:Program}{K:Ctx}{Z:Nm}{h:AH}{w:World}{E:Env}
theorem uY(S:Sat K Z h w){cap:Nat}(hr:RO K.P Z cap o ob){f:Nat->Sem Value}(g:Nat->Value)(i:∀b w,aj P (f b) w (g b) w [])
 (j:∀ι' b,ι' h.nx=some (b,cap)->Ext Z ι'->RV ι' a (g b)):fI P K Z h w (newObj ob>>=f) a (h.new o):=λd=>by
 have c:=CG d;have e:Ext Z (upd Z h.nx (w.heap.size,cap)):=xV c;exact⟨upd Z h.nx (w.heap.size,cap),{ w with heap:=w.heap.push ob },g w.heap.size,[],aj.bind (e1:=[]) (e2:=[]) (aj.new _) (i _ _),by rw[AH.lQ];exact Grow.upd,S.Cn c (hr.mono e),j _ _ (nS _ _ _) e,jI.Cn _ K,AH.wu⟩
theorem TG(F:Fits P E)(S:Sat K Z h w){x:AV}{h':AH}(e:wh E h t x=some (.val v h'))(d:RV Z x vx):fI P K Z h w (Instr.range t vx) v h':=by
 unfold wh at e;have ptr:∀{ι':Nm} {i b k:Nat},ι' i=some (b,k)->RV ι' (.ptr i 0) (.pointer (some ⟨b,0,none⟩)):=λhi=>uW hi;split at e
 .rename_i s c
  cases e;obtain rfl:=mq d;unfold Instr.range;refine fI.aG (aj.underlying (oh F c)) ?_;refine fI.aG (aj.pure _) ?_;exact uY S (cap:=0) (o:= .sit s 0) (ob:= .stringIter ⟨s.toArray⟩ 0) rfl (λb=> .pointer (some ⟨b,0,none⟩)) (λb w=>aj.pure _) (λι' b a _=>ptr a)
 .rename_i k el c
  cases e;unfold RV at d;subst d;unfold Instr.range;refine fI.aG (aj.underlying (kM F c).1) ?_;refine fI.aG (aj.pure _) ?_;exact uY S (cap:=0) (o:= .GR none 0 [] 0) (ob:= .mapIter none 0 #[] 0) ⟨none,λj hj=>(by cases hj),λ_=>rfl,rfl⟩ (λb=> .pointer (some ⟨b,0,none⟩)) (λb w=>aj.pure _) (λι' b a _=>ptr a)
 .rename_i k el id c
  split at e
  .rename_i es ck g
   cases e;obtain⟨p,hp,rfl⟩:=qH d;obtain⟨q,ob,f,l,m,y,a,n,rfl,hr⟩:=S.at g trivial;obtain rfl:p=q:=by rw[hp]at f;exact aI f
   obtain⟨r,u⟩:=aj.mR (P:=P) (K:=K) a (by simp) rfl l m;unfold Instr.range;refine fI.aG (aj.underlying (kM F c).1) ?_;refine fI.kE r u ?_;refine fI.aG (aj.pure _) ?_;exact uY S (cap:=0) (o:= .GR (some id) ck [] ck) (ob:= .mapIter (some p.1) ck #[] ck) ⟨some p.1,λj hj=>(by cases hj;exact⟨p,hp,rfl⟩),λh=>(by cases h),rfl⟩ (λb=> .pointer (some ⟨b,0,none⟩)) (λb w=>aj.pure _) (λι' b a _=>ptr a)
  .cases e
 .cases e
def AOk(P:Program)(K:Ctx)(Z:Nm)(h:AH)(w:World)(s:Sem Value)(l:List (AV×AH)):Prop:=∃p∈l,fI P K Z h w s p.1 p.2
theorem fI.after{s:Sem Nat}{f:Nat->Sem Value}{k:Nat}{h':AH}(h1:aj P s w k { w with drawn:=d } [])(b:fI P K Z h { w with drawn:=d } (f k) a h'):fI P K Z h w (s>>=f) a h':=λc=>by
 obtain⟨ι',w',e,es,g,i,j,l,m,n⟩:=b c;exact⟨ι',w',e,es,aj.aG h1 g,i,j,l,by simpa using(jI.drawn K w d).trans m,n⟩
theorem fI.choose{q:Question}{f:Nat->Sem Value}{a:AV}{h':AH}(b:∀k d,(∃t,k=q.cut t∨k=0∧q.forced=true)->fI P K Z h { w with drawn:=d } (f k) a h'):fI P K Z h w (Go.choose q>>=f) a h':=by
 obtain⟨k,w',h1,⟨d,rfl⟩,c⟩:=aj.choose (P:=P) (w:=w) q;exact fI.after h1 (b k d c)
theorem vW.all{q:AE->Bool}{q':MapEntry->Bool}(b:∀a e,e.born=a.born->q a=q' e){l:List AE}{es:List MapEntry}(hr:vW Z l es):l.all q=es.all q':=by
 induction l generalizing es with
 |nil=>
  have:es=[]:=hr;subst this;rfl
 |cons x l c=>
  obtain⟨e,r,rfl,h1,g,d,f⟩:=hr;rw[List.all_cons,List.all_cons,b x e d,c f]
theorem vW.filter{q:AE->Bool}{q':MapEntry->Bool}(f:∀a e,e.born=a.born->q a=q' e){l:List AE}{es:List MapEntry}(hr:vW Z l es):vW Z (l.filter q) (es.filter q'):=by
 induction l generalizing es with
 |nil=>
  have:es=[]:=hr;subst this;exact rfl
 |cons x l b=>
  obtain⟨e,r,rfl,h1,g,c,d⟩:=hr;rw[kJ,kJ,f x e c];split
  .exact⟨e,_,rfl,h1,g,c,b d⟩
  .exact b d
theorem decode_ascii{s:List UInt8}{pos:Nat}{b:UInt8}(a:s[pos]? =some b)(c:b.toNat<128):Utf8.decode ⟨s.toArray⟩ pos=(b.toNat,1):=by
 have hp:pos<s.length:=by rw[aJ]at a;exact a.1
 have h0:(⟨s.toArray⟩:ByteArray).get! (pos+0)=b:=by
  have:(⟨s.toArray⟩:ByteArray).get! (pos+0)=s.toArray[pos]! :=rfl;rw[this,Array.getElem!_eq_getD,bf,List.getElem?_toArray,a];rfl
 unfold Utf8.decode;simp only[h0];rw[aH (by omega)]
def XOk(P:Program)(K:Ctx)(Z:Nm)(h:AH)(w:World)(s:Sem Value):OR->Prop
 | .val v h'=>fI P K Z h w s v h'
 | .alts l=>AOk P K Z h w s l
 |_=>False
theorem V3(S:Sat K Z h w){it:AV}{vi:Value}{isS:Bool}{ty:TypeId}{r:OR}(e:ET h it isS=some r)(hi:RV Z it vi):XOk P K Z h w (Instr.next vi isS ty) r:=by
 unfold ET at e;split at e
 .rename_i id
  obtain⟨p,hp,rfl⟩:=iV hi;split at e
  .rename_i s pos B
   obtain⟨q,ob,y,J,L,b3,C,V⟩:=S.at B trivial;obtain rfl:p=q:=by rw[hp]at y;exact aI y
   obtain rfl:ob= .stringIter ⟨s.toArray⟩ pos:=V;obtain⟨D,F⟩:=aj.mR (P:=P) (K:=K) C (by simp) rfl J L;split at e
   .rename_i hn
    cases e;show fI P K Z h w _ _ _;unfold Instr.next
    refine fI.kE D F ?_;have:¬pos<(⟨s.toArray⟩:ByteArray).size:=by rw[size_mk];rw[kY]at hn;omega
    simp only[this,if_false];exact λ_=>⟨Z,w,_,[],aj.pure _,Grow.refl _ _,S,sZ (bQ mD bS),jI.refl K w (by simp),rfl⟩
   .rename_i b G
    obtain⟨M,e⟩:=dV e;rw[gM]at M;subst e;show fI P K Z h w _ _ _;unfold Instr.next
    refine fI.kE D F ?_;have W:pos<(⟨s.toArray⟩:ByteArray).size:=by rw[size_mk];rw[aJ]at G;exact G.1
    simp only[W,if_true,decode_ascii G M];exact vV.val (jS S hp B trivial C (by simp) rfl rfl) (λι' X=>sZ (bQ mD (bQ jA (bQ jA bS)))) (λw=>aj.pure _)
  .rename_i c seen st B
   cases e;obtain⟨q,ob,y,J,L,b3,C,b,k1,k2,rfl⟩:=S.at B trivial;obtain rfl:p=q:=by rw[hp]at y;exact aI y
   obtain rfl:=k2 rfl;obtain⟨D,F⟩:=aj.mR (P:=P) (K:=K) C (by simp) rfl J L;show fI P K Z h w _ _ _;unfold Instr.next
   refine fI.kE D F ?_;exact λ_=>⟨Z,w,_,[],aj.pure _,Grow.refl _ _,S,sZ (bQ mD bS),jI.refl K w (by simp),rfl⟩
  .rename_i m c seen last B
   obtain⟨q,ob,y,J,L,b3,C,b,k1,k2,rfl⟩:=S.at B trivial;obtain rfl:p=q:=by rw[hp]at y;exact aI y
   obtain⟨Y,N,rfl⟩:=k1 m rfl;obtain⟨D,F⟩:=aj.mR (P:=P) (K:=K) C (by simp) rfl J L;unfold F8 at e;split at e
   .rename_i es ck hm
    obtain⟨qm,obm,O,c1,c2,c3,hbm,i,rfl,hr⟩:=S.at hm trivial;obtain rfl:Y=qm:=by rw[N]at O;exact aI O
    obtain⟨f1,f2⟩:=aj.mR (P:=P) (K:=K) hbm (by simp) rfl c1 c2;obtain⟨e1,e⟩:=cK e;obtain⟨e2,e⟩:=iF e;have n:(!seen.toArray.isEmpty&& !i.isEmpty&&i.all (λx=>decide (x.born≥last)))=false:=by
     rw[← e1];have a1:seen.toArray.isEmpty=seen.isEmpty:=by cases seen<;>simp
     have a2:i.isEmpty=es.isEmpty:=by
      have:=hr.length;rw[nC,Array.isEmpty_iff,List.isEmpty_iff];constructor
      .intro h;rw[h]at this;simpa using this
      .intro h;rw[h]at this;exact Array.eq_empty_of_size_eq_zero (by simpa using this.symm)
     have a3:i.all (λx=>decide (x.born≥last))=es.all (λe=>Nat.ble last e.born):=by
      rw[hr.all (q':=λx=>decide (x.born≥last)) (λa e H=>by rw[H,nC,Nat.ble_eq,gM])];simp
     rw[a1,a2,a3]
    have f:vW Z (es.filter λe=> !seen.contains e.born) (i.filter λe=> !seen.toArray.contains e.born).toList:=by
     rw[Array.toList_filter];exact hr.filter λa e H=>by rw[H];simp
    obtain⟨left,g⟩:∃left,left=i.filter λe=> !seen.toArray.contains e.born:=⟨_,rfl⟩;rw[← g]at f;have o:left.filter (λx=>decide (x.born<c))=left:=by
     apply bU.1;rw[Array.toList_filter];apply List.filter_eq_self.2;have:=f.all (q:=λe=>Nat.blt e.born c) (q':=λx=>decide (x.born<c)) (λa e H=>by rw[H,nC,cO,gM]);rw[e2]at this;exact λa ha=>d9.1 this.symm a ha
    have u:left.filter (λx=>decide (x.born≥c))=#[]:=by
     apply bU.1;rw[Array.toList_filter];apply List.filter_eq_nil_iff.2;have:=f.all (q:=λe=>Nat.blt e.born c) (q':=λx=>decide (x.born<c)) (λa e H=>by rw[H,nC,cO,gM]);rw[e2]at this;intro a ha hx;have h1:=d9.1 this.symm a ha;simp only[gM]at h1 hx;omega
    split at e
    .rename_i Q
     cases e;rw[Q]at f;have hl0:left=#[]:=by
      apply bU.1;exact f
     show fI P K Z h w _ _ _;unfold Instr.next
     refine fI.kE D F ?_;refine fI.kE f1 f2 ?_;rw[hl0]at g o u;simp only[n,gG,if_false,← g,o,u];refine fI.choose λk d v=>?_;have hk0:k=0:=by
      obtain⟨t,v|v⟩:=v
      .rw[v];simp[Question.cut,Nat.mod_one]
      .exact v.1
     subst hk0;have hc:((if(#[]:Array MapEntry).isEmpty=true then #[none]else #[])++Array.map some ((#[]:Array MapEntry)++#[]))[0]? =some none:=by simp
     simp only[hc];exact λ_=>⟨Z,_,_,[],aj.pure _,Grow.refl _ _,S.drawn d,sZ (bQ mD bS),jI.refl K _ (by simp),rfl⟩
    .rename_i l hne
     cases e;show AOk P K Z h w _ _;have z:=f.length;have A:left.size≠0:=by
      intro h0;have:(es.filter λe=> !seen.contains e.born).length=0:=by rw[z];simpa using h0
      exact hne (bB.1 this)
     have R:left.isEmpty=false:=by
      rw[Bool.eq_false_iff];intro h;rw[Array.isEmpty_iff]at h;rw[h]at A;exact A rfl
     obtain⟨k,w',hch,⟨d,rfl⟩,v⟩:=aj.choose (P:=P) (w:=w) (.mapNext (left.map some).size);have T:k<left.size:=by
      obtain⟨t,v|v⟩:=v
      .rw[v]
       simp only[Question.cut,Array.size_map];exact Nat.mod_lt _ (by omega)
      .rw[v.1];omega
     have U:k<(es.filter λe=> !seen.contains e.born).length:=by rw[z];simpa using T
     obtain⟨en,hen,r1,r2,r3⟩:=f.get (aK U);refine⟨_,bP.2 ⟨_,List.getElem_mem U,rfl⟩,?_⟩;unfold Instr.next
     refine fI.kE D F ?_;refine fI.kE f1 f2 ?_;simp only[n,gG,if_false,← g,o,u,R,fG,Array.append_empty];refine fI.after hch ?_;have I:(left.map some)[k]? =some (some en):=by
      rw[iR,← bq,hen];rfl
     simp only[I];have S':=S.drawn d;refine vV.val (jS S' hp B trivial C (by simp) ⟨some Y.1,λj hj=>(by cases hj;exact⟨Y,N,rfl⟩),λh=>(by cases h),?_⟩ rfl) (λι' X=>sZ (bQ mD (bQ (r1.mono X) (bQ (r2.mono X) bS)))) (λw=>aj.pure _);rw[r3];simp
   .cases e
  .cases e
 .cases e
end
end
end Go.Ev
