/- A part of the proof that the law ProofNil returns true for every input (its card: YtfemddccapnonaaGreatDoorMyCard): EvDefs, EvStepD, EvTr, EvRun, EvRel, EvSat. Conditions: those of the given row alone. -/
import GoSem.Claims
import Derived.Orders
import Derived.Conc.Listed
import Derived.Laws.Strings
namespace Go.Ev
inductive AV where
  | any
  | one
  | bool (b : Bool)
  | int (k : IntKind) (n : Int)
  | str (s : List UInt8)
  | nilp
  | ptr (id off : Nat)
  | nils
  | emp
  | sl (id off len : Nat) (cap : Option Nat)
  | osl (a : Option (Nat × Nat)) (n c : Nat)
  | nilm
  | map (id : Nat)
  | nilf
  | fn (f : FuncId) (first cap : List AV)
  | yield (id : Nat)
  | nili
  | iface (t : TypeId) (v : AV)
  | agg (l : List AV)
  | tup (l : List AV)
  deriving Inhabited
inductive Tr (α : Type) where
  | e
  | n (l : Tr α) (v : Option α) (r : Tr α)
  deriving Inhabited
noncomputable def Tr.get {α : Type} (t : Tr α) : Nat → Option α :=
  @Tr.rec α (fun _ => Nat → Option α) (fun _ => none)
    (fun _ v _ gl gr i => @Bool.rec (fun _ => Option α) (@Bool.rec (fun _ => Option α) (gr (Nat.sub (Nat.div i 2) 1)) (gl (Nat.div i 2)) (Nat.beq (Nat.mod i 2) 1)) v (Nat.beq i 0)) t
noncomputable def Tr.setF {α : Type} (x : α) (f : Nat) : Tr α → Nat → Tr α :=
  @Nat.rec (fun _ => Tr α → Nat → Tr α) (fun _ _ => .e) (fun _ ih t i => @Tr.rec α (fun _ => Tr α)
    (@Bool.rec (fun _ => Tr α) (@Bool.rec (fun _ => Tr α) (.n .e none (ih .e (Nat.sub (Nat.div i 2) 1))) (.n (ih .e (Nat.div i 2)) none .e) (Nat.beq (Nat.mod i 2) 1)) (.n .e (some x) .e) (Nat.beq i 0))
    (fun l v r _ _ => @Bool.rec (fun _ => Tr α) (@Bool.rec (fun _ => Tr α) (.n l v (ih r (Nat.sub (Nat.div i 2) 1))) (.n (ih l (Nat.div i 2)) v r) (Nat.beq (Nat.mod i 2) 1)) (.n l (some x) r) (Nat.beq i 0)) t) f
noncomputable def Tr.set {α : Type} (t : Tr α) (i : Nat) (x : α) : Tr α := Tr.setF x (Nat.succ (Nat.log2 (Nat.succ i))) t i
structure AD where
  f : AV
  args : List AV
  deriving Inhabited
structure AE where
  key : AV
  val : AV
  born : Nat
  deriving Inhabited
inductive AO where
  | dead
  | cells (vs : List AV) (elem : TypeId) (grow : Bool) (fz : Bool)
  | map (es : List AE) (clock : Nat)
  | mit (m : Option Nat) (since : Nat) (seen : List Nat) (stepped : Nat)
  | sit (s : List UInt8) (pos : Nat)
  | loop (st : LoopState) (pending : Option Code) (fn : FuncId) (nt : Nat) (tm : Tr AV) (params : List Tmp) (assign body : Code) (defers : Nat)
  | dfr (none_ : Bool)
  deriving Inhabited
structure AH where
  tr : Tr AO
  nx : Nat
  df : Nat
  deriving Inhabited
noncomputable def AH.obj (h : AH) (id : Nat) : AO := match h.tr.get id with | some o => o | none => .dead
noncomputable def AH.put (h : AH) (id : Nat) (o : AO) : AH := match h with | ⟨tr, nx, df⟩ => ⟨tr.set id o, nx, df⟩
noncomputable def AH.new (h : AH) (o : AO) : AH := match h with | ⟨tr, nx, df⟩ => ⟨tr.set nx o, Nat.succ nx, df⟩
inductive TD where
  | bool | int (k : IntKind) | str | ptr (e : TypeId) | slice (e : TypeId) | map (k e : TypeId) | func | iface (empty : Bool)
  | struct (fs : List (Nat × Nat × TypeId))
  | array (n : Nat) (e : TypeId)
  | uptr | tuple
  deriving Inhabited
structure TI where
  d : TD
  size : Nat
  bytes : Nat
  zero : List AV
  deriving Inhabited
def TI.isAgg (t : TI) : Bool := match t.d with | .struct _ | .array _ _ => true | _ => false
inductive EX where
  | noEscape | false_ | race | dis | en | atAdd (k : IntKind) | atCas (k : IntKind) | atLoad (k : IntKind) | cmpStr | mapClone | stop
  deriving Inhabited, DecidableEq
structure FI where
  body : Option Code
  ntmps : Nat
  results : List ResultVar
  ext : EX
  deriving Inhabited
structure Env where
  tt : Tr TI
  ft : Tr FI
  meth : List (TypeId × String × FuncId)
  lies : List (TypeId × TypeId)
  flat : List (TypeId × List Nat)
  transp : List FuncId
  small : List FuncId
  inl : List FuncId
  old : Nat → Nat → Option AV := fun _ _ => none
  peek : Bool := false
noncomputable def Env.blind (E : Env) : Env := { E with old := fun _ _ => none, peek := false }
def OLD : Nat := 1152921504606846976
noncomputable def Env.d (E : Env) (t : TypeId) : Option TD := (E.tt.get t).map (·.d)
inductive AI where
  | code (c : Code)
  | inBlock (id : Nat)
  | inLoop (body : Code)
  | inScope (body : Code)
  | inRegion (ops : Array Oper) (todo : List Oper)
  | inRangeFunc (id : Nat)
  | endRangeFunc (id : Nat)
  | beginRound
  | inDrawn (ops : Array Oper) (n : Nat)
  deriving Inhabited
structure AX where
  fn : FuncId
  deferred : Bool
  round : Option Nat
  nt : Nat
  deriving Inhabited
structure AF where
  x : AX
  tm : Tr AV
  todo : List AI
  ds : List AD
  ret : Bool
  deriving Inhabited
def undefA : AV := .tup []
def avScalar : Value → AV
  | .bool b => .bool b
  | .int k n => .int k n
  | .string s => .str s.data.toList
  | .pointer none => .nilp
  | .slice none 0 0 => .nils
  | .map none => .nilm
  | .nilFunc => .nilf
  | .nilIface => .nili
  | .func (.func f) a b => cond (a.isEmpty && b.isEmpty) (.fn f [] []) .any
  | .tuple a => cond a.isEmpty (.tup []) .any
  | _ => .any
def avOf : Value → AV
  | .agg cs => .agg (cs.toList.map avScalar)
  | v => avScalar v
noncomputable def ev (tm : Tr AV) (x : Operand) : AV :=
  @Operand.rec (fun _ => Tr AV → AV) (fun t tm => match tm.get t with | some v => v | none => .any) (fun v _ => avOf v) (fun _ _ => .any) (fun g _ => .fn g [] []) x tm
noncomputable def evs (tm : Tr AV) : List Operand → List AV
  | [] => []
  | x :: l => ev tm x :: evs tm l
noncomputable def evp (tm : Tr AV) : List (Nat × Operand) → List (Nat × AV)
  | [] => []
  | p :: l => (p.1, ev tm p.2) :: evp tm l
noncomputable def evo (tm : Tr AV) : Option Operand → Option AV
  | none => none
  | some x => some (ev tm x)
def AV.cells : AV → List AV
  | .agg l => l
  | v => [v]
def setAt (l : List AV) (off : Nat) : List AV → List AV
  | [] => l
  | v :: vs => setAt (l.set off v) (off + 1) vs
def rep (n : Nat) (z : List AV) : List AV := match n with | 0 => [] | n + 1 => z ++ rep n z
def AV.isAny : AV → Bool | .any => true | _ => false
def ikEq (k k' : IntKind) : Bool := Nat.beq k.ctorIdx k'.ctorIdx
def eqS : AV → AV → Option Bool
  | .bool a, .bool b => some (a == b)
  | .int k a, .int k' b => cond (ikEq k k') (some (a == b)) none
  | .str a, .str b => some (a == b)
  | _, _ => none
def eqL : List AV → List AV → Option Bool
  | [], [] => some true
  | a :: l, b :: m => match eqS a b with
    | none => none
    | some false => match eqL l m with | none => none | some _ => some false
    | some true => eqL l m
  | _, _ => none
def eqK : AV → AV → Option Bool
  | .agg l, .agg m => eqL l m
  | a, b => eqS a b
def findK (k : AV) : List AE → Nat → Option (Option (Nat × AV))
  | [], _ => some none
  | e :: es, i => match eqK k e.key with
    | none => none
    | some true => some (some (i, e.val))
    | some false => findK k es (i + 1)
inductive OR where
  | val (v : AV) (h : AH)
  | call (g : FuncId) (args : List AV)
  | yield (id : Nat) (args : List AV)
  | dfr (d : AD)
  | alts (l : List (AV × AH))
  | stop
def int64 (n : Int) : AV := .int .i64 n
def takeN (l : List AV) (off n : Nat) : Option (List AV) :=
  let r := (l.drop off).take n
  cond (Nat.beq r.length n) (some r) none
noncomputable def unS (E : Env) : AV → AV
  | .osl none _ _ => .nils
  | .osl (some p) n c => cond E.peek (.sl (OLD + p.1) p.2 n (some c)) .any
  | v => v
def oldC (old : Nat → Nat → Option AV) (b : Nat) : Nat → Nat → Option (List AV)
  | _, 0 => some []
  | off, n + 1 => match old b off, oldC old b (off + 1) n with
    | some v, some r => some (v :: r)
    | _, _ => none
noncomputable def loadC (E : Env) (h : AH) (id off n : Nat) : Option (List AV) :=
  cond (Nat.ble OLD id) (oldC E.old (id - OLD) off n) (match h.obj id with
  | .cells vs _ _ _ => takeN vs off n
  | _ => none)
noncomputable def loadT (E : Env) (h : AH) (t : TypeId) (id off : Nat) : Option AV :=
  match E.tt.get t with
  | none => none
  | some ti => cond ti.isAgg ((loadC E h id off ti.size).map .agg)
    (cond (Nat.ble OLD id) (E.old (id - OLD) off) (match h.obj id with | .cells vs _ _ _ => vs[off]? | _ => none))
def scalL : List AV → Bool
  | [] => true
  | v :: l => (match v with | .any | .agg _ | .tup _ => false | _ => true) && scalL l
def scalV : Value → Bool
  | .agg _ | .tuple _ => false
  | _ => true
noncomputable def storeC (h : AH) (id off : Nat) (vs : List AV) : Option AH :=
  match h.obj id with
  | .cells l e g false => cond (Nat.ble (off + vs.length) l.length && scalL vs) (some (h.put id (.cells (setAt l off vs) e g false))) none
  | _ => none
def isNilIn : AV → Option Bool
  | .nilp | .nils | .nilm | .nilf | .nili => some true
  | .ptr _ _ | .sl _ _ _ _ | .map _ | .fn _ _ _ | .iface _ _ | .yield _ => some false
  | _ => none
def kindL : List Nat → List AV → Bool
  | [], [] => true
  | k :: ks, a :: l => (match a with | .bool _ => Nat.beq k 0 | .int _ _ => Nat.beq k 1 | .str _ => Nat.beq k 2 | _ => false) && kindL ks l
  | _, _ => false
def flatOk (E : Env) (t : TypeId) (l : List AV) : Bool := E.flat.any fun p => Nat.beq p.1 t && kindL p.2 l
noncomputable def keyOk (E : Env) (t : TypeId) (k : AV) : Bool :=
  match E.d t with
  | some .bool => (match k with | .bool _ => true | _ => false)
  | some (.int _) => (match k with | .int _ _ => true | _ => false)
  | some .str => (match k with | .str _ => true | _ => false)
  | some (.struct _) => (match k with | .agg l => flatOk E t l | _ => false)
  | some (.array _ _) => (match k with | .agg l => flatOk E t l | _ => false)
  | _ => false
noncomputable def eqlOp (E : Env) (t : TypeId) (x y : AV) : Option Bool :=
  match E.d t with
  | some .bool => match x, y with
    | .bool a, .bool b => some (a == b)
    | _, _ => none
  | some (.ptr e) => match x, y with
    | .nilp, .nilp => some true
    | .nilp, .ptr _ _ | .ptr _ _, .nilp => some false
    | .ptr i a, .ptr j b => cond (Nat.beq i j && (match E.tt.get e with | some ti => !Nat.beq ti.size 0 | none => false)) (some (Nat.beq a b)) none
    | _, _ => none
  | some (.slice _) => match x, y with
    | .nils, .nils => some true
    | .nils, .sl _ _ _ _ | .sl _ _ _ _, .nils => some false
    | _, _ => none
  | some (.map _ _) => match x, y with
    | .nilm, .nilm => some true
    | .nilm, .map _ | .map _, .nilm => some false
    | _, _ => none
  | some .func => match x, y with
    | .nilf, .nilf => some true
    | .nilf, .fn _ _ _ | .fn _ _ _, .nilf => some false
    | _, _ => none
  | some (.iface emp) => match x, y with
    | .nili, .iface _ _ | .iface _ _, .nili => some false
    | _, _ => none
  | some (.struct _) => match x, y with
    | .agg a, .agg b => cond (flatOk E t a) (eqL a b) none
    | _, _ => none
  | some (.array _ _) => match x, y with
    | .agg a, .agg b => cond (flatOk E t a) (eqL a b) none
    | _, _ => none
  | _ => none
def intOp (op : BinOp) (k : IntKind) (a b : Int) : Option AV :=
  (match op with
  | .add => fun k a b => some (.int k (k.wrap (a + b)))
  | .sub => fun k a b => some (.int k (k.wrap (a - b)))
  | .mul => fun k a b => some (.int k (k.wrap (a * b)))
  | .quo => fun k a b => cond (b == 0) none (some (.int k (k.wrap (a.tdiv b))))
  | .rem => fun k a b => cond (b == 0) none (some (.int k (a.tmod b)))
  | .and => fun k a b => some (.int k (k.wrap (BitVec.ofInt k.bits a &&& BitVec.ofInt k.bits b).toNat))
  | .or => fun k a b => some (.int k (k.wrap (BitVec.ofInt k.bits a ||| BitVec.ofInt k.bits b).toNat))
  | .xor => fun k a b => some (.int k (k.wrap (BitVec.ofInt k.bits a ^^^ BitVec.ofInt k.bits b).toNat))
  | .andNot => fun k a b => some (.int k (k.wrap (BitVec.ofInt k.bits a &&& ~~~BitVec.ofInt k.bits b).toNat))
  | .lss => fun _ a b => some (.bool (decide (a < b)))
  | .leq => fun _ a b => some (.bool (decide (a ≤ b)))
  | .gtr => fun _ a b => some (.bool (decide (a > b)))
  | .geq => fun _ a b => some (.bool (decide (a ≥ b)))
  | .eql => fun _ a b => some (.bool (a == b))
  | .neq => fun _ a b => some (.bool (a != b))
  | _ => fun _ _ _ => none : IntKind → Int → Int → Option AV) k a b
def intBin (op : BinOp) (k : IntKind) (a : Int) (k' : IntKind) (b : Int) : Option AV :=
  (match op with
  | .shl => fun k a _ b => cond (decide (b < 0)) none (some (.int k (k.wrap (a * 2 ^ (min b.toNat k.bits)))))
  | .shr => fun k a _ b => cond (decide (b < 0)) none (some (.int k (a.fdiv (2 ^ (min b.toNat k.bits)))))
  | op => fun k a k' b => cond (ikEq k k') (intOp op k a b) none : IntKind → Int → IntKind → Int → Option AV) k a k' b
def strBin (op : BinOp) (a b : List UInt8) : Option AV :=
  match op with
  | .add => cond (decide (a.length + b.length < 4611686018427387904)) (some (.str (a ++ b))) none
  | .eql => some (.bool (a == b))
  | .neq => some (.bool (!(a == b)))
  | .lss => some (.bool (Op.bytesLess a b))
  | .leq => some (.bool (Op.bytesLess a b || a == b))
  | .gtr => some (.bool (!(Op.bytesLess a b || a == b)))
  | .geq => some (.bool (!(Op.bytesLess a b)))
  | _ => none
def asInt : AV → Option (IntKind × Int) | .int k n => some (k, n) | _ => none
def asStr : AV → Option (List UInt8) | .str s => some s | _ => none
noncomputable def eqBin (E : Env) (op : BinOp) (t : TypeId) (x y : AV) : Option AV :=
  match op with
  | .eql => (eqlOp E t x y).map .bool
  | .neq => (eqlOp E t x y).map fun b => .bool (!b)
  | _ => none
noncomputable def binA (E : Env) (op : BinOp) (t : TypeId) (x y : AV) : Option AV :=
  match asInt x with
  | some (k, a) => (match asInt y with
    | some (k', b) => intBin op k a k' b
    | none => none)
  | none => match asStr x with
    | some a => (match asStr y with
      | some b => strBin op a b
      | none => none)
    | none => eqBin E op t x y
def unA (op : UnOp) (x : AV) : Option AV :=
  match op, x with
  | .not, .bool b => some (.bool (!b))
  | .neg, .int k n => some (.int k (k.wrap (0 - n)))
  | .xor, .int k n => some (.int k (k.wrap (BitVec.ofInt k.bits (cond k.signed (-1) k.max) ^^^ BitVec.ofInt k.bits n).toNat))
  | _, _ => none
def bytesOf (s : List UInt8) : List AV := s.map fun b => .int .u8 b.toNat
def strOf : List AV → Option (List UInt8)
  | [] => some []
  | .int .u8 n :: l => match strOf l with | some r => some (UInt8.ofNat n.toNat :: r) | none => none
  | _ => none
noncomputable def convA (E : Env) (s d : TypeId) (x : AV) (h : AH) : Option OR :=
  match E.d s, E.d d, x with
  | some (.ptr e), some .uptr, .ptr id off =>
    match h.obj id, E.tt.get e with
    | .cells vs _ _ _, some ti => cond (!Nat.beq ti.size 0 && Nat.blt off vs.length) (some (.val (.ptr id off) h)) none
    | _, _ => none
  | some .uptr, some (.ptr u), .ptr id 0 =>
    match h.obj id, E.tt.get u with
    | .cells vs el false _, some ti => (match E.tt.get el with
      | some ei => cond (!Nat.beq ti.size 0 && !Nat.beq ei.size 0 && Nat.beq vs.length ei.size && E.lies.any (fun p => Nat.beq p.1 el && Nat.beq p.2 u)) (some (.val (.ptr id 0) h)) none
      | none => none)
    | _, _ => none
  | some (.slice e), some .str, .nils => (match E.d e with
    | some (.int .u8) => some (.val (.str []) h)
    | _ => none)
  | some (.slice e), some .str, .sl id off len _ => (match E.d e with
    | some (.int .u8) => (match loadC E h id off len with
      | some vs => (strOf vs).map fun r => .val (.str r) h
      | none => none)
    | _ => none)
  | some .str, some (.slice e), .str a =>
    match E.tt.get e with
    | some ti => (match ti.d with
      | .int .u8 => cond (Nat.beq ti.size 1) (some (.val (.sl h.nx 0 a.length none) (h.new (.cells (bytesOf a) e true false)))) none
      | _ => none)
    | none => none
  | _, _, _ => none
noncomputable def srcC (E : Env) (h : AH) (size : Nat) : AV → Option (Nat × List AV)
  | .nils => some (0, [])
  | .emp => some (0, [])
  | .sl id off len _ => (loadC E h id off (len * size)).map fun c => (len, c)
  | .str s => cond (Nat.beq size 1) (some (s.length, bytesOf s)) none
  | _ => none
noncomputable def appendA (E : Env) (h : AH) (ts tx : TypeId) (s x : AV) : Option (AV × AH) :=
  match E.tt.get ts, E.tt.get tx with
  | some { d := .slice e, .. }, some xi =>
    match E.tt.get e with
    | none => none
    | some ei =>
      cond (match xi.d with | .int _ => true | _ => Nat.beq ei.bytes 0 || Nat.beq ei.size 0 || Nat.blt 4096 ei.bytes) none <|
      match srcC E h ei.size x with
      | none => none
      | some (n, c) =>
        cond (Nat.blt 268435456 n) none <|
        match s with
        | .nils => cond (Nat.beq n 0) (some (.nils, h)) (some (.sl h.nx 0 n none, h.new (.cells c e true false)))
        | .sl id off len (some cap) =>
          cond (Nat.ble (len + n) cap)
            ((storeC h id (off + len * ei.size) c).map fun h' => (.sl id off (len + n) (some cap), h'))
            (cond (Nat.blt 268435456 (len + cap)) none <| (loadC E h id off (len * ei.size)).map fun old => (.sl h.nx 0 (len + n) none, h.new (.cells (old ++ c) e true false)))
        | .sl id 0 len none =>
          cond (Nat.blt 268435456 len) none <|
          match h.obj id with
          | .cells vs el true false =>
            cond (Nat.beq el e && Nat.ble (len * ei.size) vs.length && scalL c && (match x with | .sl id' _ _ _ => !Nat.beq id id' | _ => true))
              (some (.sl h.nx 0 (len + n) none, (h.put id .dead).new (.cells (vs.take (len * ei.size) ++ c) e true false))) none
          | _ => none
        | _ => none
  | _, _ => none
noncomputable def copyA (E : Env) (h : AH) (td : TypeId) (d s : AV) : Option (AV × AH) :=
  match E.tt.get td with
  | some { d := .slice e, .. } =>
    match E.tt.get e with
    | none => none
    | some ei =>
      match d, s with
      | .sl id off len _, .sl id' off' len' _ =>
        let n := Nat.min len' len
        match loadC E h id' off' (n * ei.size) with
        | some c => (storeC h id off c).map fun h' => (int64 n, h')
        | none => none
      | .sl id off len _, .str s =>
        let n := Nat.min s.length len
        (storeC h id off (bytesOf (s.take n))).map fun h' => (int64 n, h')
      | .sl _ _ _ _, .nils | .nils, .nils | .nils, .sl _ _ _ _ => some (int64 0, h)
      | _, _ => none
  | _ => none
def boundOk (lo hi : Nat) (x : AV) : Option Nat :=
  match x with
  | .int _ i => cond (decide (lo ≤ i ∧ i ≤ hi)) (some i.toNat) none
  | _ => none
def bndA (x : Option AV) (hi dflt : Nat) : Option Nat := match x with | some v => boundOk 0 hi v | none => some dflt
def hiA (hi : Option AV) (m len : Nat) (mx : Bool) : Option Nat := match hi with | some v => boundOk 0 m v | none => cond mx none (some len)
def sliceK (id off size len m : Nat) (lo hi : Option AV) (mx : Bool) : Option AV :=
  match hiA hi m len mx with
  | none => none
  | some h => match bndA lo h 0 with
    | none => none
    | some l => some (.sl id (cond (Nat.beq m l) off (off + l * size)) (h - l) (some (m - l)))
def sliceU (id off size len : Nat) (lo hi : Option AV) : Option AV :=
  match hiA hi len len false with
  | none => none
  | some h => match bndA lo h 0 with
    | none => none
    | some l => cond (Nat.beq l 0) (some (.sl id off h none)) (cond (Nat.blt l len) (some (.sl id (off + l * size) (h - l) none)) (some .emp))
def sliceStr (s : List UInt8) (lo hi : Option AV) : Option AV :=
  match hiA hi s.length s.length false with
  | none => none
  | some h => match bndA lo h 0 with
    | none => none
    | some l => some (.str ((s.take h).drop l))
noncomputable def sliceA (E : Env) (t : TypeId) (x : AV) (lo hi mx : Option AV) : Option AV :=
  match E.d t, x with
  | some .str, .str s => cond mx.isSome none (sliceStr s lo hi)
  | some (.slice e), .nils => match E.tt.get e, bndA mx 0 0, hiA hi 0 0 mx.isSome, bndA lo 0 0 with
    | some _, some _, some _, some _ => some .nils
    | _, _, _, _ => none
  | some (.array n e), .ptr id off => match E.tt.get e, bndA mx n n with
    | some ei, some m => sliceK id off ei.size n m lo hi mx.isSome
    | _, _ => none
  | some (.slice e), .sl id off len (some c) => match E.tt.get e, bndA mx c c with
    | some ei, some m => sliceK id off ei.size len m lo hi mx.isSome
    | _, _ => none
  | some (.slice e), .sl id off len none => match E.tt.get e, mx with
    | some ei, none => sliceU id off ei.size len lo hi
    | some ei, some v => match boundOk 0 len v with
      | some m => sliceK id off ei.size len m lo hi true
      | none => none
    | _, _ => none
  | _, _ => none
def fillA (szs : Nat → Option (Nat × Nat)) : List AV → List (Nat × AV) → Option (List AV)
  | l, [] => some l
  | l, p :: ps => match szs p.1 with
    | none => none
    | some q => cond p.2.isAny none
      (cond (Nat.beq p.2.cells.length q.2 && Nat.ble (q.1 + q.2) l.length) (fillA szs (setAt l q.1 p.2.cells) ps) none)
def TI.zeroV (t : TI) : AV := cond t.isAgg (.agg t.zero) (t.zero.getD 0 .any)
noncomputable def buildA (E : Env) (t : TypeId) (ps : List (Nat × AV)) : Option AV :=
  match E.tt.get t with
  | none => none
  | some ti => match ti.d with
    | .struct fs => (fillA (fun i => (fs[i]?).map fun x => (x.1, x.2.1)) ti.zero ps).map .agg
    | .array _ e => match E.tt.get e with
      | some ei => (fillA (fun i => some (i * ei.size, ei.size)) ti.zero ps).map .agg
      | none => none
    | _ => none
def nilCheckA : AV → Option AV
  | .ptr i o => some (.ptr i o)
  | .fn g a b => some (.fn g a b)
  | .iface t v => some (.iface t v)
  | .yield i => some (.yield i)
  | _ => none
noncomputable def makeIfaceA (E : Env) (t : TypeId) (x : AV) : Option AV :=
  match E.d t with
  | none => none
  | some (.iface _) => none
  | some _ => some (.iface t x)
noncomputable def fieldAddrA (E : Env) (s : TypeId) (x : AV) (i : Nat) : Option AV :=
  match E.d s, x with
  | some (.struct fs), .ptr id off => match fs[i]? with
    | some (o, size, _) => cond (Nat.beq size 0) none (some (.ptr id (off + o)))
    | none => none
  | _, _ => none
noncomputable def partA (E : Env) (u : TypeId) (l : List AV) (o : Nat) : Option AV :=
  match E.tt.get u with
  | none => none
  | some ti => cond ti.isAgg ((takeN l o ti.size).map .agg) (l[o]?)
noncomputable def fieldA (E : Env) (t : TypeId) (x : AV) (i : Nat) : Option AV :=
  match E.d t, x with
  | some (.struct fs), .agg l => match fs[i]? with
    | some (o, _, u) => partA E u l o
    | none => none
  | _, _ => none
noncomputable def indexAddrA (E : Env) (t : TypeId) (x i : AV) : Option AV :=
  match E.d t, x, i with
  | some (.slice e), .sl id off len _, .int _ n => match E.tt.get e with
    | some ei => cond (decide (0 ≤ n ∧ n < len)) (some (.ptr id (off + n.toNat * ei.size))) none
    | none => none
  | some (.array len e), .ptr id off, .int _ n => match E.tt.get e with
    | some ei => cond (decide (0 ≤ n ∧ n < len)) (some (.ptr id (off + n.toNat * ei.size))) none
    | none => none
  | _, _, _ => none
noncomputable def indexA (E : Env) (t : TypeId) (x i : AV) : Option AV :=
  match E.d t, x, i with
  | some .str, .str s, .int _ n => cond (decide (0 ≤ n)) ((s[n.toNat]?).map fun b => .int .u8 b.toNat) none
  | some (.array len e), .agg l, .int _ n => match E.tt.get e with
    | some ei => cond (decide (0 ≤ n ∧ n < len)) (partA E e l (n.toNat * ei.size)) none
    | none => none
  | _, _, _ => none
noncomputable def mapEs (h : AH) : AV → Option (List AE)
  | .nilm => some []
  | .map id => match h.obj id with | .map es _ => some es | _ => none
  | _ => none
noncomputable def lookupA (E : Env) (h : AH) (t : TypeId) (x i : AV) (ok : Bool) : Option AV :=
  match E.d t with
  | some (.map kt e) => match E.tt.get e, cond (keyOk E kt i) (mapEs h x) none with
    | some ei, some es => match findK i es 0 with
      | none => none
      | some (some (_, v)) => some (cond ok (.tup [v, .bool true]) v)
      | some none => some (cond ok (.tup [ei.zeroV, .bool false]) ei.zeroV)
    | _, _ => none
  | _ => none
noncomputable def entryA (h : AH) : AV → Option AV
  | .ptr id 0 => match h.obj id with
    | .mit (some m) _ seen stepped => match h.obj m, seen.getLast? with
      | .map es clock, some st => cond (Nat.beq clock stepped) ((es.find? fun e => Nat.beq e.born st).map fun e => .tup [e.key, e.val]) none
      | _, _ => none
    | _ => none
  | _ => none
def extractA (x : AV) (i : Nat) : Option AV :=
  match x with
  | .tup l => l[i]?
  | _ => none
noncomputable def assertA (E : Env) (t : TypeId) (x : AV) (ok : Bool) : Option AV :=
  match E.tt.get t, x with
  | some ti, .iface u v => match ti.d with
    | .iface _ => none
    | _ => cond (Nat.beq u t) (some (cond ok (.tup [v, .bool true]) v)) (cond ok (some (.tup [ti.zeroV, .bool false])) none)
  | _, _ => none
noncomputable def lenA (E : Env) (h : AH) (t : TypeId) (x : AV) : Option AV :=
  match E.d t, x with
  | some .str, .str s => some (int64 s.length)
  | some (.array n _), _ => some (int64 n)
  | some (.slice _), .nils => some (int64 0)
  | some (.slice _), .emp => some (int64 0)
  | some (.slice _), .osl _ n _ => some (int64 n)
  | some (.slice _), .sl _ _ n _ => some (int64 n)
  | some (.map _ _), .nilm => some (int64 0)
  | some (.map _ _), .map id => match h.obj id with | .map es _ => some (int64 es.length) | _ => none
  | _, _ => none
noncomputable def quietB (E : Env) (h : AH) (b : Builtin) (args : List AV) (ts : List TypeId) : Option AV :=
  match b with
  | .len => match args, ts with | [x], [t] => lenA E h t x | _, _ => none
  | .max => match args with | [.int k a, .int k' b] => cond (k == k') (some (.int k (cond (decide (b > a)) b a))) none | _ => none
  | .min => match args with | [.int k a, .int k' b] => cond (k == k') (some (.int k (cond (decide (b < a)) b a))) none | _ => none
  | .unsafeSliceData => match args with | [.sl id off (_ + 1) _] => some (.ptr id off) | [.nils] => some .nilp | _ => none
  | _ => none
noncomputable def convQ (E : Env) (s d : TypeId) (x : AV) : Option AV :=
  match E.d s, E.d d, x with
  | some _, some (.int k), .int _ n => some (.int k (k.wrap n))
  | some .str, some .str, .str a => some (.str a)
  | _, _, _ => none
def callB (c : Call) : Option Builtin := match c.callee with | .builtin b => some b | _ => none
abbrev QF := Env → Tr AV → AH → Option AV
noncomputable def quietOp (op : Op) : QF :=
  @Op.rec (fun _ => QF)
    (fun x _ tm _ => some (ev tm x))
    (fun x _ tm _ => some (ev tm x))
    (fun c a b _ tm _ => match ev tm c with | .bool t => some (cond t (ev tm a) (ev tm b)) | _ => none)
    (fun _ _ _ _ => none)
    (fun _ _ _ _ _ => none)
    (fun t parts E tm _ => buildA E t (evp tm parts.toList))
    (fun _ _ _ _ _ _ => none)
    (fun _ _ _ _ _ _ _ => none)
    (fun t a E tm h => match ev tm a with | .ptr id off => loadT E h t id off | _ => none)
    (fun _ _ _ _ _ _ => none)
    (fun _ _ _ _ => none)
    (fun _ _ _ _ => none)
    (fun x _ tm _ => nilCheckA (ev tm x))
    (fun op t x y _ E tm _ => binA E op t (unS E (ev tm x)) (unS E (ev tm y)))
    (fun op _ x _ tm _ => unA op (ev tm x))
    (fun s d x E tm _ => convQ E s d (ev tm x))
    (fun _ _ _ _ _ => none)
    (fun t x E tm _ => makeIfaceA E t (ev tm x))
    (fun g a b _ tm _ => match g with | .func g => some (.fn g (evs tm a.toList) (evs tm b.toList)) | _ => none)
    (fun _ _ _ _ _ => none)
    (fun _ _ _ _ _ => none)
    (fun _ _ _ _ _ _ => none)
    (fun t x lo hi mx E tm _ => sliceA E t (unS E (ev tm x)) (evo tm lo) (evo tm hi) (evo tm mx))
    (fun s x i E tm _ => fieldAddrA E s (ev tm x) i)
    (fun t x i E tm _ => fieldA E t (ev tm x) i)
    (fun t x i E tm _ => indexAddrA E t (unS E (ev tm x)) (ev tm i))
    (fun t x i E tm _ => indexA E t (ev tm x) (ev tm i))
    (fun t x i ok E tm h => lookupA E h t (ev tm x) (ev tm i) ok)
    (fun _ _ _ _ _ _ _ => none)
    (fun _ _ _ _ _ _ => none)
    (fun _ _ _ _ _ _ _ => none)
    (fun _ _ _ _ _ => none)
    (fun _ _ _ _ _ => none)
    (fun it _ tm h => entryA h (ev tm it))
    (fun x _ t ok E tm _ => assertA E t (ev tm x) ok)
    (fun x i _ tm _ => extractA (ev tm x) i)
    (fun c E tm h => match callB c with
      | some b => quietB E h b (evs tm c.args.toList) c.argTypes.toList
      | none => none)
    (fun _ _ _ _ => none)
    (fun _ _ _ _ => none)
    (fun _ _ _ _ => none)
    (fun _ _ _ _ _ => none)
    (fun _ _ _ _ _ _ => none)
    (fun _ _ _ _ _ => none)
    op
noncomputable def allocA (E : Env) (h : AH) (t : TypeId) : Option OR :=
  match E.tt.get t with
  | some ti => some (.val (.ptr h.nx 0) (h.new (.cells ti.zero t false false)))
  | none => none
noncomputable def boxA (E : Env) (h : AH) (t : TypeId) (v : AV) : Option OR :=
  match E.tt.get t with
  | some ti => cond v.isAny none (some (.val (.ptr h.nx 0) (h.new (.cells v.cells t false false))))
  | none => none
noncomputable def buildSliceA (E : Env) (h : AH) (t : TypeId) (len : Nat) (ps : List (Nat × AV)) : Option OR :=
  match E.d t with
  | some (.slice e) => match E.tt.get e with
    | some ei => cond (Nat.blt 65536 (len * ei.size)) none
        ((fillA (fun i => some (i * ei.size, ei.size)) (rep len ei.zero) ps).map fun cs => .val (.sl h.nx 0 len (some len)) (h.new (.cells cs e false false)))
    | none => none
  | _ => none
noncomputable def storeA (E : Env) (h : AH) (t : TypeId) (a v : AV) : Option OR :=
  match E.tt.get t, a with
  | some ti, .ptr id off => cond v.isAny none
      (cond (Nat.beq v.cells.length ti.size) ((storeC h id off v.cells).map fun h' => .val undefA h') none)
  | _, _ => none
noncomputable def makeSliceA (E : Env) (h : AH) (t : TypeId) (l c : AV) : Option OR :=
  match E.d t, l, c with
  | some (.slice e), .int _ n, .int _ m => match E.tt.get e with
    | some ei => cond (decide (0 ≤ n ∧ n ≤ m ∧ m ≤ 65536) && Nat.ble ei.bytes 4096)
        (some (.val (.sl h.nx 0 n.toNat (some m.toNat)) (h.new (.cells (rep m.toNat ei.zero) e false false)))) none
    | none => none
  | _, _, _ => none
noncomputable def makeMapA (E : Env) (h : AH) (t : TypeId) (r : Option AV) : Option OR :=
  match r with
  | none => some (.val (.map h.nx) (h.new (.map [] 0)))
  | some (.int _ _) => (match E.d t with
    | some (.map _ _) => some (.val (.map h.nx) (h.new (.map [] 0)))
    | _ => none)
  | _ => none
noncomputable def mapUpdateA (E : Env) (h : AH) (t : TypeId) (m k x : AV) : Option OR :=
  match E.d t, m with
  | some (.map kt _), .map id => match cond (keyOk E kt k) (h.obj id) .dead with
    | .map es clock => match findK k es 0 with
      | none => none
      | some (some (i, _)) => some (.val undefA (h.put id (.map (es.modify i fun e => { e with key := k, val := x }) clock)))
      | some none => some (.val undefA (h.put id (.map (es ++ [⟨k, x, clock⟩]) (clock + 1))))
    | _ => none
  | _, _ => none
noncomputable def mapEntryA (E : Env) (h : AH) (t : TypeId) (m k : AV) : Option OR :=
  match E.d t, m with
  | some (.map kt e), .map id => match cond (keyOk E kt k) (h.obj id) .dead, E.tt.get e with
    | .map es clock, some ei => match findK k es 0 with
      | none => none
      | some (some (i, v)) => match es[i]? with
        | some en => some (.val (.tup [v, int64 en.born]) (h.put id (.map (es.modify i fun e => { e with key := k }) clock)))
        | none => none
      | some none => some (.val (.tup [ei.zeroV, int64 clock]) (h.put id (.map (es ++ [⟨k, ei.zeroV, clock⟩]) (clock + 1))))
    | _, _ => none
  | _, _ => none
noncomputable def entryStoreA (h : AH) (m s x : AV) : Option OR :=
  match m, s with
  | .map id, .int _ st => match h.obj id with
    | .map es clock => match es.findIdx? (fun e => (e.born : Int) == st) with
      | some i => some (.val undefA (h.put id (.map (es.modify i fun e => { e with val := x }) clock)))
      | none => none
    | _ => none
  | _, _ => none
noncomputable def rangeA (E : Env) (h : AH) (t : TypeId) (x : AV) : Option OR :=
  match E.d t, x with
  | some .str, .str s => some (.val (.ptr h.nx 0) (h.new (.sit s 0)))
  | some (.map _ _), .nilm => some (.val (.ptr h.nx 0) (h.new (.mit none 0 [] 0)))
  | some (.map _ _), .map id => match h.obj id with
    | .map _ clock => some (.val (.ptr h.nx 0) (h.new (.mit (some id) clock [] clock)))
    | _ => none
  | _, _ => none
noncomputable def nextMap (h : AH) (id m since : Nat) (seen : List Nat) (last : Nat) : Option OR :=
  match h.obj m with
  | .map es clock =>
    cond (!seen.isEmpty && !es.isEmpty && es.all (fun e => Nat.ble last e.born)) none
      (cond ((es.filter fun e => !seen.contains e.born).all fun e => Nat.blt e.born since)
        (match es.filter fun e => !seen.contains e.born with
         | [] => some (.val (.tup [.bool false]) h)
         | l => some (.alts (l.map fun e => (.tup [.bool true, e.key, e.val], h.put id (.mit (some m) since (seen ++ [e.born]) clock)))))
        none)
  | _ => none
noncomputable def nextA (h : AH) (it : AV) (isS : Bool) : Option OR :=
  match it with
  | .ptr id 0 => match h.obj id, isS with
    | .sit s pos, true => match s[pos]? with
      | none => some (.val (.tup [.bool false]) h)
      | some b => cond (decide (b.toNat < 128)) (some (.val (.tup [.bool true, int64 pos, .int .i32 b.toNat]) (h.put id (.sit s (pos + 1))))) none
    | .mit none _ _ _, false => some (.val (.tup [.bool false]) h)
    | .mit (some m) since seen last, false => nextMap h id m since seen last
    | _, _ => none
  | _ => none
noncomputable def deleteA (E : Env) (h : AH) (t : TypeId) (m k : AV) : Option OR :=
  match E.d t, m with
  | some (.map kt _), .nilm => cond (keyOk E kt k) (some (.val (.tup []) h)) none
  | some (.map kt _), .map id => match cond (keyOk E kt k) (h.obj id) .dead with
    | .map es clock => match findK k es 0 with
      | none => none
      | some (some (i, _)) => some (.val (.tup []) (h.put id (.map (es.eraseIdx i) clock)))
      | some none => some (.val (.tup []) (h.put id (.map es clock)))
    | _ => none
  | _, _ => none
noncomputable def clearA (E : Env) (h : AH) (t : TypeId) (m : AV) : Option OR :=
  match E.d t, m with
  | some (.map _ _), .map id => match h.obj id with
    | .map _ clock => some (.val (.tup []) (h.put id (.map [] clock)))
    | _ => none
  | _, _ => none
noncomputable def byteT (E : Env) (e : TypeId) : Bool :=
  match E.tt.get e with
  | some ti => (match ti.d with | .int .u8 => Nat.beq ti.size 1 | _ => false)
  | none => false
noncomputable def unsafeStringA (E : Env) (h : AH) (pt : TypeId) (p n : AV) : Option OR :=
  match p, n with
  | .nilp, .int _ n => cond (n == 0) (some (.val (.str []) h)) none
  | .ptr id off, .int _ n =>
    match E.d pt, h.obj id with
    | some (.ptr e), .cells vs el g _ =>
      cond (byteT E e && Nat.beq el e && decide (0 < n) && decide (n ≤ 268435456)) (match takeN vs off n.toNat with
        | some c => (strOf c).map fun s => .val (.str s) (h.put id (.cells vs el g true))
        | none => none) none
    | _, _ => none
  | _, _ => none
noncomputable def loudB (E : Env) (h : AH) (b : Builtin) (args : List AV) (ts : List TypeId) : Option OR :=
  match b with
  | .append => match args, ts with | [s, x], [t, u] => (appendA E h t u (unS E s) (unS E x)).map fun p => .val p.1 p.2 | _, _ => none
  | .copy => match args, ts with | [d, s], t :: _ => (copyA E h t (unS E d) (unS E s)).map fun p => .val p.1 p.2 | _, _ => none
  | .delete => match args, ts with | [m, k], t :: _ => deleteA E h t m k | _, _ => none
  | .clear => match args, ts with | [m], t :: _ => clearA E h t m | _, _ => none
  | .unsafeString => match args, ts with | [p, n], t :: _ => unsafeStringA E h t p n | _, _ => none
  | _ => none
def invokeA (E : Env) (r : AV) (m : String) (args : List AV) : Option OR :=
  match r with
  | .iface t v => match E.meth.find? (fun p => Nat.beq p.1 t && p.2.1 == m) with
    | some p => some (.call p.2.2 (v :: args))
    | none => none
  | _ => none
def callV (g : AV) (args : List AV) : Option OR :=
  match g with
  | .fn i first cap => some (.call i (first ++ args ++ cap))
  | .yield l => some (.yield l args)
  | _ => none
abbrev LF := Env → Tr AV → AH → Option OR
noncomputable def callA (c : Call) : LF := fun E tm h => match c.callee with
  | .builtin b => loudB E h b (evs tm c.args.toList) c.argTypes.toList
  | .value g => callV (ev tm g) (evs tm c.args.toList)
  | .invoke r m => invokeA E (ev tm r) m (evs tm c.args.toList)
noncomputable def loudOp (op : Op) : LF :=
  @Op.rec (fun _ => LF)
    (fun _ _ _ _ => none)
    (fun _ _ _ _ => none)
    (fun _ _ _ _ _ _ => none)
    (fun t E _ h => allocA E h t)
    (fun t x E tm h => boxA E h t (ev tm x))
    (fun _ _ _ _ _ => none)
    (fun t len parts E tm h => buildSliceA E h t len (evp tm parts.toList))
    (fun t m k x E tm h => mapUpdateA E h t (ev tm m) (ev tm k) (ev tm x))
    (fun _ _ _ _ _ => none)
    (fun t a x E tm h => storeA E h t (ev tm a) (ev tm x))
    (fun _ _ _ _ => none)
    (fun _ _ _ _ => none)
    (fun _ _ _ _ => none)
    (fun _ _ _ _ _ _ _ _ => none)
    (fun _ _ _ _ _ _ => none)
    (fun s d x E tm h => convA E s d (ev tm x) h)
    (fun _ _ _ _ _ => none)
    (fun _ _ _ _ _ => none)
    (fun _ _ _ _ _ _ => none)
    (fun t r E tm h => makeMapA E h t (evo tm r))
    (fun _ _ _ _ _ => none)
    (fun t l c E tm h => makeSliceA E h t (ev tm l) (ev tm c))
    (fun _ _ _ _ _ _ _ _ => none)
    (fun _ _ _ _ _ _ => none)
    (fun _ _ _ _ _ _ => none)
    (fun _ _ _ _ _ _ => none)
    (fun _ _ _ _ _ _ => none)
    (fun _ _ _ _ _ _ _ => none)
    (fun t m k x E tm h => mapUpdateA E h t (ev tm m) (ev tm k) (ev tm x))
    (fun t m k E tm h => mapEntryA E h t (ev tm m) (ev tm k))
    (fun _ m s x _ tm h => entryStoreA h (ev tm m) (ev tm s) (ev tm x))
    (fun t x E tm h => rangeA E h t (ev tm x))
    (fun it isS _ tm h => nextA h (ev tm it) isS)
    (fun _ _ _ _ => none)
    (fun _ _ _ _ _ _ _ => none)
    (fun _ _ _ _ _ => none)
    callA
    (fun _ _ _ _ => some .stop)
    (fun c _ tm _ => match c.callee with
      | .value g => (match ev tm g with
        | .fn f a b => some (.dfr ⟨.fn f a b, evs tm c.args.toList⟩)
        | _ => none)
      | _ => none)
    (fun _ _ _ _ => none)
    (fun _ _ _ _ _ => none)
    (fun _ _ _ _ _ _ => none)
    (fun _ _ _ _ _ => none)
    op
noncomputable def extA (x : EX) (args : List AV) (h : AH) : Option OR :=
  match x, args with
  | .noEscape, [v] => some (.val v h)
  | .false_, _ => some (.val (.bool false) h)
  | .race, [.ptr id _] => (match h.obj id with
    | .cells _ _ _ _ => some (.val (.tup []) h)
    | _ => none)
  | .dis, [] => some (.val (.tup []) { h with df := h.df + 1 })
  | .en, [] => cond (Nat.beq h.df 0) none (some (.val (.tup []) { h with df := h.df - 1 }))
  | .atAdd k, [.ptr id off, .int k' d] => (match h.obj id with
    | .cells vs _ _ _ => (match vs[off]? with
      | some (.int k'' n) => cond (ikEq k k' && ikEq k k'') ((storeC h id off [.int k (k.wrap (n + d))]).map fun h' => .val (.int k (k.wrap (n + d))) h') none
      | _ => none)
    | _ => none)
  | .atLoad k, [.ptr id off] => (match h.obj id with
    | .cells vs _ _ _ => (match vs[off]? with
      | some (.int k'' n) => cond (ikEq k k'') (some (.val (.int k n) h)) none
      | _ => none)
    | _ => none)
  | .atCas k, [.ptr id off, .int k' a, .int k1 b] => (match h.obj id with
    | .cells vs _ _ false => (match vs[off]? with
      | some (.int k'' n) => cond (ikEq k k' && ikEq k k'' && ikEq k k1) (cond (n == a) ((storeC h id off [.int k b]).map fun h' => .val (.bool true) h') (some (.val (.bool false) h))) none
      | _ => none)
    | _ => none)
  | .cmpStr, [.str a, .str b] => some (.val (int64 (Extern.BytealgCompare.cmp ⟨a.toArray⟩ ⟨b.toArray⟩)) h)
  | .mapClone, [.iface t (.map id)] => (match h.obj id with
    | .map es clock => some (.val (.iface t (.map h.nx)) (h.new (.map es clock)))
    | _ => none)
  | .stop, _ => some .stop
  | _, _ => none
end Go.Ev
namespace Go.Ev
def Dl (listed : Array Bool) : Nat → Bool := fun j => listed.getD j false
def left' (n : Nat) (listed : Array Bool) : Nat := ((List.range n).filter fun i => Dl listed i == false).length
def Left (ops : Array Oper) (n : Nat) (rest : List Nat) : Prop :=
  ∃ fuel t listed, listed.size = ops.size ∧ left' ops.size listed ≤ fuel ∧ (∀ i, Dl listed i = decide (i < n)) ∧ rest = Region.linearise.go .any ops fuel t listed []
noncomputable def fin (x : AX) (d : Option Tmp) (v : AV) (tm : Tr AV) : Tr AV :=
  match d with
  | none => tm
  | some d => tm.set d (cond (Nat.blt d x.nt) v undefA)
def exitA (id : Nat) : List AI → Option (List AI)
  | .inBlock id' :: k => cond (Nat.beq id' id) (some k) (exitA id k)
  | _ :: k => exitA id k
  | [] => none
def gotoA (l : Nat) : List AI → Option (List AI)
  | .inScope body :: k => match findLabel body l with
    | some rest => some (.code rest :: .inScope body :: k)
    | none => gotoA l k
  | _ :: k => gotoA l k
  | [] => none
noncomputable def guardA (ops : Array Oper) (tm : Tr AV) (j : Nat) (want : Bool) : Option Bool :=
  match ops[j]? with
  | none => some false
  | some o => match o.dst with
    | none => some false
    | some d => match tm.get d with
      | some (.bool b) => some (cond want b (!b))
      | some (.tup []) => some false
      | _ => none
noncomputable def wantedA (o : Oper) (ops : Array Oper) (tm : Tr AV) : Option Bool :=
  match o.guard with
  | none => some true
  | some p => guardA ops tm p.1 p.2
inductive A1 where
  | go (f : AF) (h : AH)
  | call (f : AF) (dst : Option Tmp) (g : FuncId) (args : List AV) (h : AH)
  | dcall (f : AF) (g : FuncId) (args : List AV) (h : AH)
  | round (f : AF) (dst : Option Tmp) (id : Nat) (args : List AV) (h : AH)
  | drawn (x : AX) (tm : Tr AV) (ops : Array Oper) (k : List AI) (ds : List AD) (h : AH)
  | alts (l : List (AF × AH))
  | ret (v : AV) (h : AH)
  | stop
noncomputable def resA (E : Env) (rs : List ResultVar) (tm : Tr AV) (h : AH) : Option (List AV) :=
  match rs with
  | [] => some []
  | .tmp t :: l => (match resA E l tm h with | some r => some (ev tm (.tmp t) :: r) | none => none)
  | .cell a t :: l => match ev tm (.tmp a) with
    | .ptr id off => (match loadT E h t id off with
      | some v => (match resA E l tm h with | some r => some (v :: r) | none => none)
      | none => none)
    | _ => none
def inR (ops : Array Oper) (rest : List Oper) (k : List AI) : List AI := .inRegion ops rest :: k
noncomputable def extR (x : AX) (tm : Tr AV) (d : Option Tmp) (td : List AI) (ds : List AD) : Option OR → Option A1
  | some (.val v h') => some (.go ⟨x, fin x d v tm, td, ds, false⟩ h')
  | some .stop => some .stop
  | _ => none
noncomputable def callR (E : Env) (x : AX) (tm : Tr AV) (d : Option Tmp) (td : List AI) (ds : List AD) (h : AH) (g : FuncId) (args : List AV) : Option A1 :=
  match E.ft.get g with
  | some ⟨some _, _, _, _⟩ => some (.call ⟨x, tm, td, ds, false⟩ d g args h)
  | some ⟨none, _, _, e⟩ => extR x tm d td ds (extA e args h)
  | none => none
noncomputable def loudR (E : Env) (x : AX) (tm : Tr AV) (d : Option Tmp) (td : List AI) (ds : List AD) (h : AH) : Option OR → Option A1
  | some (.val v h') => some (.go ⟨x, fin x d v tm, td, ds, false⟩ h')
  | some (.call g args) => callR E x tm d td ds h g args
  | some (.yield l args) => some (.round ⟨x, tm, td, ds, false⟩ d l args h)
  | some (.dfr a) => (match x.round with | none => some (.go ⟨x, fin x d undefA tm, td, a :: ds, false⟩ h) | some _ => none)
  | some (.alts l) => some (.alts (l.map fun p => (⟨x, fin x d p.1 tm, td, ds, false⟩, p.2)))
  | some .stop => some .stop
  | none => none
noncomputable def opA (E : Env) (x : AX) (tm : Tr AV) (td : List AI) (ds : List AD) (h : AH) (o : Oper) : Option A1 :=
  match quietOp o.op E tm h with
  | some v => some (.go ⟨x, fin x o.dst v tm, td, ds, false⟩ h)
  | none => loudR E x tm o.dst td ds h (loudOp o.op E tm h)
noncomputable def retA (E : Env) (x : AX) (tm : Tr AV) (todo : List AI) (ds : List AD) (h : AH) : Option A1 :=
  match ds with
  | d :: ds => (match d.f with
    | .nilm =>
      (match d.args with
      | [.ptr id 0] => (match h.obj id with
        | .dfr false => some (.go ⟨x, tm, todo, ds, true⟩ (h.put id (.dfr true)))
        | _ => none)
      | _ => none)
    | .fn g first cap => (match E.ft.get g with
      | some ⟨some _, _, _, _⟩ => some (.dcall ⟨x, tm, todo, ds, true⟩ g (first ++ d.args ++ cap) h)
      | some ⟨none, _, _, e⟩ => (match extA e (first ++ d.args ++ cap) h with
        | some (.val _ h') => some (.go ⟨x, tm, todo, ds, true⟩ h')
        | some .stop => some .stop
        | _ => none)
      | none => none)
    | _ => none)
  | [] => (match E.ft.get x.fn with
    | some ⟨some _, _, rs, _⟩ => (match resA E rs tm h with
      | some [v] => some (.ret v h)
      | some l => some (.ret (.tup l) h)
      | none => none)
    | _ => none)
noncomputable def leaveA (x : AX) (tm : Tr AV) (todo : List AI) (ds : List AD) (h : AH) (jump : Option Code) : Option A1 :=
  match x.round with
  | none => (match jump with
    | none | some .ret => some (.go ⟨x, tm, todo, ds, true⟩ h)
    | _ => none)
  | some l => (match h.obj l with
    | .loop _ _ fn nt t ps a b d => some (.ret (.bool jump.isNone) (h.put l (.loop (cond jump.isNone .ready .done) jump fn nt t ps a b d)))
    | _ => none)
noncomputable def rangeFuncA (E : Env) (x : AX) (tm : Tr AV) (ds : List AD) (h : AH) (k : List AI) (g : Operand) (ps : Array Tmp) (a b : Code) : Option A1 :=
  match (match x.round with
         | some l => (match h.obj l with | .loop _ _ _ _ _ _ _ _ d => some (d, h, []) | _ => none)
         | none => some (h.nx, h.new (.dfr false), [AD.mk .nilm [.ptr h.nx 0]])) with
  | some (d, h1, mark) => (match ev tm g with
    | .fn i first cap => (match E.ft.get i with
      | some ⟨some _, _, _, _⟩ => some (.call ⟨x, tm, .endRangeFunc h1.nx :: k, mark ++ ds, false⟩ none i (first ++ [.yield h1.nx] ++ cap) (h1.new (.loop .ready none x.fn x.nt tm ps.toList a b d)))
      | _ => none)
    | _ => none)
  | none => none
noncomputable def regionA (E : Env) (x : AX) (tm : Tr AV) (ds : List AD) (h : AH) (k : List AI) (ops : Array Oper) (o : Oper) (rest : List Oper) : Option A1 :=
  match wantedA o ops tm with
  | some true => opA E x tm (inR ops rest k) ds h o
  | some false => some (.go ⟨x, fin x o.dst undefA tm, inR ops rest k, ds, false⟩ h)
  | none => none
noncomputable def codeA (E : Env) (c : Code) (k : List AI) (x : AX) (tm : Tr AV) (ds : List AD) (h : AH) : Option A1 :=
  (match c with
   | .skip => fun _ k x tm ds h => some (.go ⟨x, tm, k, ds, false⟩ h)
   | .label _ => fun _ k x tm ds h => some (.go ⟨x, tm, k, ds, false⟩ h)
   | .ret => fun _ k x tm ds h => leaveA x tm (.code .ret :: k) ds h (some .ret)
   | .seq a b => fun _ k x tm ds h => some (.go ⟨x, tm, .code a :: .code b :: k, ds, false⟩ h)
   | .cond c a b => fun _ k x tm ds h => (match ev tm c with
     | .bool t => some (.go ⟨x, tm, .code (cond t a b) :: k, ds, false⟩ h)
     | _ => none)
   | .block id body => fun _ k x tm ds h => some (.go ⟨x, tm, .code body :: .inBlock id :: k, ds, false⟩ h)
   | .loop body => fun _ k x tm ds h => some (.go ⟨x, tm, .code body :: .inLoop body :: k, ds, false⟩ h)
   | .scope body => fun _ k x tm ds h => some (.go ⟨x, tm, .code body :: .inScope body :: k, ds, false⟩ h)
   | .exit id => fun _ k x tm ds h => (match exitA id k with
     | some k' => some (.go ⟨x, tm, k', ds, false⟩ h)
     | none => leaveA x tm (.code (.exit id) :: k) ds h (some (.exit id)))
   | .goto l => fun _ k x tm ds h => (match gotoA l k with
     | some k' => some (.go ⟨x, tm, k', ds, false⟩ h)
     | none => leaveA x tm (.code (.goto l) :: k) ds h (some (.goto l)))
   | .rangeFunc g ps a b => fun E k x tm ds h => rangeFuncA E x tm ds h k g ps a b
   | .region _ ops draw => fun _ k x tm ds h => cond draw (some (.drawn x tm ops k ds h)) (some (.go ⟨x, tm, inR ops ops.toList k, ds, false⟩ h))
   | .refuse _ => fun _ _ _ _ _ _ => none : Env → List AI → AX → Tr AV → List AD → AH → Option A1) E k x tm ds h
noncomputable def itemA (E : Env) (i : AI) (k : List AI) (x : AX) (tm : Tr AV) (ds : List AD) (h : AH) : Option A1 :=
  (match i with
   | .code c => fun E k x tm ds h => codeA E c k x tm ds h
   | .inBlock _ => fun _ k x tm ds h => some (.go ⟨x, tm, k, ds, false⟩ h)
   | .inScope _ => fun _ k x tm ds h => some (.go ⟨x, tm, k, ds, false⟩ h)
   | .inLoop body => fun _ k x tm ds h => some (.go ⟨x, tm, .code body :: .inLoop body :: k, ds, false⟩ h)
   | .inRegion ops l => fun E k x tm ds h => (match l with
     | [] => some (.go ⟨x, tm, k, ds, false⟩ h)
     | o :: rest => regionA E x tm ds h k ops o rest)
   | .inRangeFunc _ => fun _ _ _ _ _ _ => none
   | .endRangeFunc l => fun _ k x tm ds h => (match h.obj l with
     | .loop st p fn nt t ps a b d => cond (match st with | .busy => true | _ => false) none
         (some (.go ⟨x, tm, (match p with | some c => .code c :: k | none => k), ds, false⟩ (h.put l (.loop .exhausted p fn nt t ps a b d))))
     | _ => none)
   | .beginRound => fun _ k x tm ds h => (match x.round with
     | some l => (match h.obj l with
       | .loop .ready p fn nt t ps a b d => some (.go ⟨x, tm, k, ds, false⟩ (h.put l (.loop .busy p fn nt t ps a b d)))
       | _ => none)
     | none => none)
   | .inDrawn _ _ => fun _ _ _ _ _ _ => none : Env → List AI → AX → Tr AV → List AD → AH → Option A1) E k x tm ds h
noncomputable def stepA (E : Env) (f : AF) (h : AH) : Option A1 :=
  match f with
  | ⟨x, tm, todo, ds, ret⟩ => cond ret (retA E x tm todo ds h) (match todo with
    | [] => leaveA x tm [] ds h none
    | i :: k => itemA E i k x tm ds h)
noncomputable def setArgs : List AV → Nat → Tr AV → Tr AV
  | [], _, t => t
  | a :: l, i, t => setArgs l (Nat.succ i) (t.set i a)
noncomputable def enterA (E : Env) (g : FuncId) (args : List AV) (deferred : Bool) : Option AF :=
  match E.ft.get g with
  | some ⟨some c, n, _, _⟩ => cond (Nat.ble args.length n) (some ⟨⟨g, deferred, none, n⟩, setArgs args 0 .e, [.code c], [], false⟩) none
  | _ => none
noncomputable def setPs : List (Nat × AV) → Nat → Tr AV → Tr AV
  | [], _, t => t
  | p :: l, n, t => setPs l n (t.set p.1 (cond (Nat.blt p.1 n) p.2 undefA))
noncomputable def roundA (h : AH) (id : Nat) (args : List AV) : Option AF :=
  match h.obj id with
  | .loop _ _ fn nt tm ps a b _ =>
    cond (Nat.beq args.length ps.length) (some ⟨⟨fn, false, some id, nt⟩, setPs (ps.zip args) nt tm, [.code a, .beginRound, .code b], [], false⟩) none
  | _ => none
mutual
def AV.beq : AV → AV → Bool
  | .any, .any => true
  | .one, .one => true
  | .bool a, .bool b => a == b
  | .int k a, .int j b => k == j && a == b
  | .str a, .str b => a == b
  | .nilp, .nilp => true
  | .ptr a b, .ptr c d => Nat.beq a c && Nat.beq b d
  | .nils, .nils => true
  | .emp, .emp => true
  | .osl a n c, .osl b m d => decide (a = b) && (Nat.beq n m && Nat.beq c d)
  | .sl a b c d, .sl x y z u => Nat.beq a x && Nat.beq b y && Nat.beq c z && d == u
  | .nilm, .nilm => true
  | .map a, .map b => Nat.beq a b
  | .nilf, .nilf => true
  | .fn f a b, .fn g c d => Nat.beq f g && AV.beqL a c && AV.beqL b d
  | .yield a, .yield b => Nat.beq a b
  | .nili, .nili => true
  | .iface t a, .iface u b => Nat.beq t u && AV.beq a b
  | .agg a, .agg b => AV.beqL a b
  | .tup a, .tup b => AV.beqL a b
  | _, _ => false
def AV.beqL : List AV → List AV → Bool
  | [], [] => true
  | a :: l, b :: m => AV.beq a b && AV.beqL l m
  | _, _ => false
end
def AE.beqL : List AE → List AE → Bool
  | [], [] => true
  | a :: l, b :: m => AV.beq a.key b.key && AV.beq a.val b.val && Nat.beq a.born b.born && AE.beqL l m
  | _, _ => false
def AO.beq : AO → AO → Bool
  | .cells a e g z, .cells b e' g' z' => Nat.beq e e' && g == g' && z == z' && AV.beqL a b
  | .map a c, .map b d => Nat.beq c d && AE.beqL a b
  | .mit a b c d, .mit a' b' c' d' => a == a' && Nat.beq b b' && c == c' && Nat.beq d d'
  | .sit a b, .sit a' b' => a == a' && Nat.beq b b'
  | _, _ => false
def meetT : Tr AO → Tr AO → Tr AO
  | .n l (some a) r, .n l' (some b) r' => .n (meetT l l') (cond (AO.beq a b) (some a) none) (meetT r r')
  | .n l _ r, .n l' _ r' => .n (meetT l l') none (meetT r r')
  | _, _ => .e
noncomputable def AH.meet (a b : AH) : AH := ⟨meetT a.tr b.tr, max a.nx b.nx, a.df⟩
def sw (a b i : Nat) : Nat := cond (Nat.beq i a) b (cond (Nat.beq i b) a i)
mutual
def AV.sw (a b : Nat) : AV → AV
  | .ptr i o => .ptr (Ev.sw a b i) o
  | .sl i o l c => .sl (Ev.sw a b i) o l c
  | .map i => .map (Ev.sw a b i)
  | .yield i => .yield (Ev.sw a b i)
  | .fn f l m => .fn f (AV.swL a b l) (AV.swL a b m)
  | .iface t v => .iface t (AV.sw a b v)
  | .agg l => .agg (AV.swL a b l)
  | .tup l => .tup (AV.swL a b l)
  | v => v
def AV.swL (a b : Nat) : List AV → List AV
  | [] => []
  | v :: l => AV.sw a b v :: AV.swL a b l
end
def mapT {α : Type} (f : α → α) : Tr α → Tr α
  | .e => .e
  | .n l v r => .n (mapT f l) (match v with | some x => some (f x) | none => none) (mapT f r)
def AO.sw (a b : Nat) : AO → AO
  | .dead => .dead
  | .cells vs e g z => .cells (AV.swL a b vs) e g z
  | .map es c => .map (es.map fun e => ⟨e.key.sw a b, e.val.sw a b, e.born⟩) c
  | .mit m s l p => .mit (match m with | some i => some (Ev.sw a b i) | none => none) s l p
  | .sit s p => .sit s p
  | .loop st p fn nt tm ps x y d => .loop st p fn nt (mapT (AV.sw a b) tm) ps x y (Ev.sw a b d)
  | .dfr z => .dfr z
noncomputable def getO (t : Tr AO) (i : Nat) : AO := match t.get i with | some o => o | none => .dead
noncomputable def swT (a b : Nat) (t : Tr AO) : Tr AO := (t.set a (getO t b)).set b (getO t a)
noncomputable def AH.sw (a b : Nat) (h : AH) : AH := match h with | ⟨tr, nx, df⟩ => ⟨swT a b (mapT (AO.sw a b) tr), nx, df⟩
mutual
def pairV : AV → AV → List (Nat × Nat)
  | .ptr i _, .ptr j _ | .sl i _ _ _, .sl j _ _ _ | .map i, .map j | .yield i, .yield j => [(i, j)]
  | .fn _ a b, .fn _ c d => pairL a c ++ pairL b d
  | .iface _ a, .iface _ b => pairV a b
  | .agg a, .agg b | .tup a, .tup b => pairL a b
  | _, _ => []
def pairL : List AV → List AV → List (Nat × Nat)
  | a :: l, b :: m => pairV a b ++ pairL l m
  | _, _ => []
end
def pairO : AO → AO → List (Nat × Nat)
  | .cells a _ _ _, .cells b _ _ _ => pairL a b
  | .map a _, .map b _ => (a.zip b).flatMap fun p => pairV p.1.key p.2.key ++ pairV p.1.val p.2.val
  | _, _ => []
noncomputable def mism (t1 t2 : Tr AO) (n0 : Nat) : Nat → List (Nat × Nat) → Tr Nat → Option (Nat × Nat)
  | 0, _, _ => none
  | _, [], _ => none
  | n + 1, p :: l, vis => cond (Nat.beq p.1 p.2)
      (match vis.get p.1 with
       | some _ => mism t1 t2 n0 n l vis
       | none => match t1.get p.1, t2.get p.1 with
         | some o1, some o2 => mism t1 t2 n0 n (pairO o1 o2 ++ l) (vis.set p.1 0)
         | _, _ => mism t1 t2 n0 n l (vis.set p.1 0))
      (cond (Nat.ble n0 p.1 && Nat.ble n0 p.2) (some p) (mism t1 t2 n0 n l vis))
noncomputable def renAll (n0 : Nat) (v : AV) (h : AH) : Nat → AV × AH → AV × AH
  | 0, q => q
  | n + 1, q => match mism h.tr q.2.tr n0 100000 (pairV v q.1) .e with
    | some p => cond (Nat.ble n0 p.1 && Nat.ble n0 p.2 && Nat.blt p.1 q.2.nx && Nat.blt p.2 q.2.nx && Nat.ble q.2.nx OLD) (renAll n0 v h n (q.1.sw p.1 p.2, q.2.sw p.1 p.2)) q
    | none => q
noncomputable def meetAll (r : AF → AH → Option (AV × AH)) : AV → AH → List (AF × AH) → Option (AV × AH)
  | v, h, [] => some (v, h)
  | v, h, p :: l => match r p.1 p.2 with
    | some q0 => (match renAll p.2.nx v h 12 q0 with
      | q => cond (AV.beq v q.1 && Nat.beq h.df q.2.df) (meetAll r v (h.meet q.2) l) none)
    | none => none
mutual
def AV.ids : AV → List Nat
  | .ptr i _ | .sl i _ _ _ | .map i | .yield i => [i]
  | .fn _ a b => AV.idsL a ++ AV.idsL b
  | .iface _ v => AV.ids v
  | .agg l | .tup l => AV.idsL l
  | _ => []
def AV.idsL : List AV → List Nat
  | [] => []
  | a :: l => AV.ids a ++ AV.idsL l
end
def AO.ids : AO → List Nat
  | .cells vs _ _ _ => AV.idsL vs
  | .map es _ => es.flatMap fun e => AV.ids e.key ++ AV.ids e.val
  | .mit (some m) _ _ _ => [m]
  | _ => []
noncomputable def reach (t : Tr AO) : Nat → List Nat → Tr AO → Tr AO
  | 0, _, acc => acc
  | _, [], acc => acc
  | n + 1, i :: l, acc => match acc.get i with
    | some _ => reach t n l acc
    | none => match t.get i with
      | some o => reach t n (o.ids ++ l) (acc.set i o)
      | none => reach t n l acc
noncomputable def AH.sub (h : AH) (args : List AV) : AH := ⟨reach h.tr 100000 (AV.idsL args) .e, h.nx, h.df⟩
def overT : Tr AO → Tr AO → Tr AO → Tr AO
  | .n l v r, .n pl pv pr, .n l' v' r' => .n (overT l pl l') (match pv with | some _ => v' | none => match v' with | some x => some x | none => v) (overT r pr r')
  | .n l v r, .e, .n l' v' r' => .n (overT l .e l') (match v' with | some x => some x | none => v) (overT r .e r')
  | h, .e, .e => h
  | .e, _, t => t
  | _, _, .e => .e
noncomputable def AH.over (h p h' : AH) : AH := ⟨overT h.tr p.tr h'.tr, h'.nx, h'.df⟩
def freshKind : Op → Bool
  | .alloc _ | .box .. | .buildSlice .. | .makeMap .. => true
  | _ => false
def readsHeap : Op → Bool
  | .load .. | .lookup .. | .entry _ | .call _ => true
  | _ => false
noncomputable def wake (m : Nat) : List (Nat × Nat × AO) → AH → AH × List (Nat × Nat × AO)
  | [], h => (h, [])
  | p :: l, h => match wake m l h with
    | (h', l') => cond (m.testBit p.1) (h'.put p.2.1 p.2.2, l') (h', p :: l')
structure DQ where
  op : Op
  i : Nat
  tm : Tr AV
  v : AV
noncomputable def atHeap (E : Env) (q : DQ) (h : AH) : Bool := match quietOp q.op E q.tm h with | some v => AV.beq v q.v | none => false
noncomputable def quietOkL (E : Env) (b : Array Nat) (q : DQ) : List (Nat × AH) → Bool
  | [] => true
  | p :: l => cond ((b.getD p.1 0).testBit q.i || l.any fun x => (b.getD q.i 0).testBit x.1) (quietOkL E b q l) (atHeap E q p.2 && quietOkL E b q l)
noncomputable def quietOk (E : Env) (b : Array Nat) (hs : List (Nat × AH)) (h0 : AH) (q : DQ) : Bool :=
  cond (hs.any fun p => (b.getD q.i 0).testBit p.1) true (atHeap E q h0) && quietOkL E b q hs
def chainOk (b : Array Nat) : List (Nat × AH) → Bool
  | [] | [_] => true
  | p :: q :: l => (b.getD q.1 0).testBit p.1 && chainOk b (q :: l)
noncomputable def putAll : List (Nat × Nat × AO) → AH → AH
  | [], h => h
  | p :: l, h => putAll l (h.put p.2.1 p.2.2)
def regOk (ops : List Oper) (b : Array Nat) (all : Array Oper) : Bool :=
  (ops.zipIdx.all fun p => p.1.after.toList.all (fun e => !Region.binds .any e || Nat.blt e.on p.2) && (match p.1.dst with | none => true | some d => Nat.blt d 1000000)) &&
  (ops.zipIdx.all fun p => ops.zipIdx.all fun q => Nat.beq p.2 q.2 || (match q.1.dst with
    | none => true
    | some d => !((p.1.dst == some d) || (p.1.looksAt all).contains d) || (b.getD p.2 0).testBit q.2 || (b.getD q.2 0).testBit p.2))
abbrev RunF := AF → AH → Option (AV × AH)
noncomputable def runC (E : Env) (r : RunF) (g : FuncId) (args : List AV) (d : Bool) (h : AH) : Option (AV × AH) :=
  match enterA E g args d with
  | none => none
  | some f => cond (E.small.any (Nat.beq g))
    (match r f (h.sub args) with
     | some p => some (p.1, h.over (h.sub args) p.2)
     | none => none)
    (r f h)
structure Outs where
  call : FuncId → List AV → AH → Option (AV × AH)
  round : Nat → List AV → AH → Option (AV × AH)
noncomputable def outs (E : Env) (r : RunF) : Outs :=
  ⟨fun g args h => runC E r g args false h, fun l args h => match roundA h l args with
    | some g => r g h
    | none => none⟩
noncomputable def loudD (E : Env) (r : Outs) (h : AH) : Option OR → Option (AV × AH)
  | some (.val v h') => some (v, h')
  | some (.call g args) => (match E.ft.get g with
    | some ⟨some _, _, _, _⟩ => r.call g args h
    | some ⟨none, _, _, e⟩ => (match extA e args h with
      | some (.val v h') => some (v, h')
      | _ => none)
    | none => none)
  | some (.yield l args) => r.round l args h
  | _ => none
noncomputable def runD (E : Env) (r : Nat → Outs) (x : AX) (b : Array Nat) (ops : Array Oper) (h0 : AH) : List Oper → Nat → Tr AV → List DQ → List (Nat × AH) → List (Nat × Nat × AO) → AH → Option (Tr AV × AH)
  | [], _, tm, qs, hs, ps, h => cond (chainOk b hs.reverse && qs.all (quietOk E b hs.reverse h0)) (some (tm, putAll ps h)) none
  | o :: os, i, tm, qs, hs, ps, h => match wantedA o ops tm with
    | none => none
    | some false => runD E r x b ops h0 os (Nat.succ i) (fin x o.dst undefA tm) qs hs ps h
    | some true => cond (freshKind o.op)
      (match loudOp o.op E tm h with
       | some (.val v h') => cond (Nat.blt h.nx 1000000) (runD E r x b ops h0 os (Nat.succ i) (fin x o.dst v tm) qs hs ((i, h.nx, h'.obj h.nx) :: ps) ⟨h.tr, h'.nx, h'.df⟩) none
       | _ => none)
      (match quietOp o.op E tm h with
       | some v => runD E r x b ops h0 os (Nat.succ i) (fin x o.dst v tm) (cond (readsHeap o.op) (⟨o.op, i, tm, v⟩ :: qs) qs) hs ps h
       | none => (match wake (b.getD i 0) ps h with
         | (h, ps) => (match loudD E (r i) h (loudOp o.op E tm h) with
           | some p => runD E r x b ops h0 os (Nat.succ i) (fin x o.dst p.1 tm) qs ((i, p.2) :: hs) ps p.2
           | none => none)))
noncomputable def resK (c : AF × Option Tmp) (v : AV) : AF := match c with | (⟨x, tm, td, ds, _⟩, d) => ⟨x, fin x d v tm, td, ds, false⟩
noncomputable def stepK (E : Env) (r : RunF) (rk : AF → List (AF × Option Tmp) → AH → Option (AV × AH)) (k : List (AF × Option Tmp)) : Option A1 → Option (AV × AH)
  | some (.go f h) => rk f k h
  | some (.ret v h) => (match k with
    | [] => some (v, h)
    | c :: k' => rk (resK c v) k' h)
  | some (.call f d g args h) => cond (E.inl.any (Nat.beq g))
    (match enterA E g args false with
    | some f2 => rk f2 ((f, d) :: k) h
    | none => none)
    (match runC E r g args false h with
    | some p => rk (resK (f, d) p.1) k p.2
    | none => none)
  | some (.round f d l args h) => (match roundA h l args with
    | some g => (match r g h with
      | some p => rk (resK (f, d) p.1) k p.2
      | none => none)
    | none => none)
  | some (.alts (p :: l)) => (match rk p.1 k p.2 with
    | some q => meetAll (fun f h => rk f k h) q.1 q.2 l
    | none => none)
  | _ => none
noncomputable def runK (E : Env) (r : RunF) (n : Nat) : AF → List (AF × Option Tmp) → AH → Option (AV × AH) :=
  @Nat.rec (fun _ => AF → List (AF × Option Tmp) → AH → Option (AV × AH)) (fun _ _ _ => none) (fun _ rk f k h => stepK E r rk k (stepA E f h)) n
noncomputable def runCI (E : Env) (r : RunF) (g : FuncId) (args : List AV) (h : AH) : Option (AV × AH) :=
  cond (E.inl.any (Nat.beq g)) (match enterA E g args false with | some f => runK E r 100000 f [] h | none => none) (runC E r g args false h)
noncomputable def stepR (E : Env) (r : RunF) : Option A1 → Option (AV × AH)
  | some (.go f h) => r f h
  | some (.ret v h) => some (v, h)
  | some (.call ⟨x, tm, td, ds, _⟩ d g args h) => (match runCI E r g args h with
    | some p => r ⟨x, fin x d p.1 tm, td, ds, false⟩ p.2
    | none => none)
  | some (.dcall f g args h) => (match runC E r g args true h with
    | some p => r f p.2
    | none => none)
  | some (.round ⟨x, tm, td, ds, _⟩ d l args h) => (match roundA h l args with
    | some g => (match r g h with
      | some p => r ⟨x, fin x d p.1 tm, td, ds, false⟩ p.2
      | none => none)
    | none => none)
  | some (.drawn x tm ops k ds h) => cond (regOk ops.toList (Region.before ops) ops) (match runD E (fun _ => outs E r) x (Region.before ops) ops h ops.toList 0 tm [] [] [] h with
    | some p => r ⟨x, p.1, k, ds, false⟩ p.2
    | none => none) none
  | some (.alts (p :: l)) => (match r p.1 p.2 with
    | some q => meetAll r q.1 q.2 l
    | none => none)
  | _ => none
noncomputable def runF (E : Env) (n : Nat) : RunF :=
  @Nat.rec (fun _ => RunF) (fun _ _ => none) (fun _ r f h => stepR E r (stepA E f h)) n
end Go.Ev
namespace Go.Ev
section
variable {α : Type}
theorem Tr.get_e (i : Nat) : (Tr.e : Tr α).get i = none := rfl
theorem Tr.get_n (l : Tr α) (v : Option α) (r : Tr α) (i : Nat) :
    (Tr.n l v r).get i = if i = 0 then v else if i % 2 = 1 then l.get (i / 2) else r.get (i / 2 - 1) := by
  show @Bool.rec (fun _ => Option α) (@Bool.rec (fun _ => Option α) (r.get (i / 2 - 1)) (l.get (i / 2)) (Nat.beq (i % 2) 1)) v (Nat.beq i 0) = _
  by_cases h : i = 0
  · subst h; rfl
  · have h1 : Nat.beq i 0 = false := by cases hb : Nat.beq i 0 with | false => rfl | true => exact absurd (Nat.eq_of_beq_eq_true hb) h
    rw [h1, if_neg h]
    by_cases h' : i % 2 = 1
    · have : Nat.beq (i % 2) 1 = true := by rw [h']; rfl
      rw [this, if_pos h']
    · have : Nat.beq (i % 2) 1 = false := by cases hb : Nat.beq (i % 2) 1 with | false => rfl | true => exact absurd (Nat.eq_of_beq_eq_true hb) h'
      rw [this, if_neg h']
theorem Tr.setF_0 (x : α) (t : Tr α) (i : Nat) : Tr.setF x 0 t i = .e := rfl
theorem Tr.setF_e (x : α) (f i : Nat) : Tr.setF x (f + 1) .e i = if i = 0 then .n .e (some x) .e else if i % 2 = 1 then .n (Tr.setF x f .e (i / 2)) none .e else .n .e none (Tr.setF x f .e (i / 2 - 1)) := by
  show @Bool.rec (fun _ => Tr α) (@Bool.rec (fun _ => Tr α) (.n .e none (Tr.setF x f .e (i / 2 - 1))) (.n (Tr.setF x f .e (i / 2)) none .e) (Nat.beq (i % 2) 1)) (.n .e (some x) .e) (Nat.beq i 0) = _
  by_cases h : i = 0
  · subst h; rfl
  · have h1 : Nat.beq i 0 = false := by cases hb : Nat.beq i 0 with | false => rfl | true => exact absurd (Nat.eq_of_beq_eq_true hb) h
    rw [h1, if_neg h]
    by_cases h' : i % 2 = 1
    · have : Nat.beq (i % 2) 1 = true := by rw [h']; rfl
      rw [this, if_pos h']
    · have : Nat.beq (i % 2) 1 = false := by cases hb : Nat.beq (i % 2) 1 with | false => rfl | true => exact absurd (Nat.eq_of_beq_eq_true hb) h'
      rw [this, if_neg h']
theorem Tr.setF_n (x : α) (f : Nat) (l : Tr α) (v : Option α) (r : Tr α) (i : Nat) :
    Tr.setF x (f + 1) (.n l v r) i = if i = 0 then .n l (some x) r else if i % 2 = 1 then .n (Tr.setF x f l (i / 2)) v r else .n l v (Tr.setF x f r (i / 2 - 1)) := by
  show @Bool.rec (fun _ => Tr α) (@Bool.rec (fun _ => Tr α) (.n l v (Tr.setF x f r (i / 2 - 1))) (.n (Tr.setF x f l (i / 2)) v r) (Nat.beq (i % 2) 1)) (.n l (some x) r) (Nat.beq i 0) = _
  by_cases h : i = 0
  · subst h; rfl
  · have h1 : Nat.beq i 0 = false := by cases hb : Nat.beq i 0 with | false => rfl | true => exact absurd (Nat.eq_of_beq_eq_true hb) h
    rw [h1, if_neg h]
    by_cases h' : i % 2 = 1
    · have : Nat.beq (i % 2) 1 = true := by rw [h']; rfl
      rw [this, if_pos h']
    · have : Nat.beq (i % 2) 1 = false := by cases hb : Nat.beq (i % 2) 1 with | false => rfl | true => exact absurd (Nat.eq_of_beq_eq_true hb) h'
      rw [this, if_neg h']
theorem Tr.get_setF (x y : α) : ∀ (f : Nat) (t : Tr α) (i j : Nat), (Tr.setF x f t i).get j = some y → (j = i ∧ y = x) ∨ (j ≠ i ∧ t.get j = some y) := by
  intro f
  induction f with
  | zero => intro t i j h; rw [Tr.setF_0, Tr.get_e] at h; cases h
  | succ f ih =>
    intro t i j h
    cases t with
    | e =>
      rw [Tr.setF_e] at h
      by_cases hi : i = 0
      · rw [if_pos hi, Tr.get_n] at h
        by_cases hj : j = 0
        · rw [if_pos hj] at h; exact .inl ⟨by omega, (Option.some.inj h).symm⟩
        · rw [if_neg hj] at h; split at h <;> (rw [Tr.get_e] at h; cases h)
      · rw [if_neg hi] at h
        by_cases hi' : i % 2 = 1
        · rw [if_pos hi', Tr.get_n] at h
          by_cases hj : j = 0
          · rw [if_pos hj] at h; cases h
          · rw [if_neg hj] at h
            by_cases hj' : j % 2 = 1
            · rw [if_pos hj'] at h
              rcases ih _ _ _ h with ⟨h1, h2⟩ | ⟨_, h2⟩
              · exact .inl ⟨by omega, h2⟩
              · rw [Tr.get_e] at h2; cases h2
            · rw [if_neg hj', Tr.get_e] at h; cases h
        · rw [if_neg hi', Tr.get_n] at h
          by_cases hj : j = 0
          · rw [if_pos hj] at h; cases h
          · rw [if_neg hj] at h
            by_cases hj' : j % 2 = 1
            · rw [if_pos hj', Tr.get_e] at h; cases h
            · rw [if_neg hj'] at h
              rcases ih _ _ _ h with ⟨h1, h2⟩ | ⟨_, h2⟩
              · exact .inl ⟨by omega, h2⟩
              · rw [Tr.get_e] at h2; cases h2
    | n l v r =>
      rw [Tr.setF_n] at h
      rw [Tr.get_n]
      by_cases hi : i = 0
      · rw [if_pos hi, Tr.get_n] at h
        by_cases hj : j = 0
        · rw [if_pos hj] at h; exact .inl ⟨by omega, (Option.some.inj h).symm⟩
        · rw [if_neg hj] at h ⊢; exact .inr ⟨by omega, h⟩
      · rw [if_neg hi] at h
        by_cases hi' : i % 2 = 1
        · rw [if_pos hi', Tr.get_n] at h
          by_cases hj : j = 0
          · rw [if_pos hj] at h ⊢; exact .inr ⟨by omega, h⟩
          · rw [if_neg hj] at h ⊢
            by_cases hj' : j % 2 = 1
            · rw [if_pos hj'] at h ⊢
              rcases ih _ _ _ h with ⟨h1, h2⟩ | ⟨h1, h2⟩
              · exact .inl ⟨by omega, h2⟩
              · exact .inr ⟨by intro e; exact h1 (by rw [e]), h2⟩
            · rw [if_neg hj'] at h ⊢; exact .inr ⟨by intro e; rw [e] at hj'; exact hj' hi', h⟩
        · rw [if_neg hi', Tr.get_n] at h
          by_cases hj : j = 0
          · rw [if_pos hj] at h ⊢; exact .inr ⟨by omega, h⟩
          · rw [if_neg hj] at h ⊢
            by_cases hj' : j % 2 = 1
            · rw [if_pos hj'] at h ⊢; exact .inr ⟨by intro e; rw [e] at hj'; exact hi' hj', h⟩
            · rw [if_neg hj'] at h ⊢
              rcases ih _ _ _ h with ⟨h1, h2⟩ | ⟨h1, h2⟩
              · exact .inl ⟨by omega, h2⟩
              · exact .inr ⟨by intro e; exact h1 (by rw [e]), h2⟩
theorem Tr.get_set {x y : α} {t : Tr α} {i j : Nat} (h : (t.set i x).get j = some y) : (j = i ∧ y = x) ∨ (j ≠ i ∧ t.get j = some y) := Tr.get_setF x y _ t i j h
theorem Tr.get_setF_eq (x : α) : ∀ (f : Nat) (t : Tr α) (i j : Nat), i + 1 < 2 ^ f → (Tr.setF x f t i).get j = if j = i then some x else t.get j := by
  intro f
  induction f with
  | zero => intro t i j h; simp at h
  | succ f ih =>
    intro t i j h
    rw [Nat.pow_succ] at h
    have key : ∀ (l : Tr α) (v : Option α) (r : Tr α), (∀ k, l.get k = none ∨ True) → (if i = 0 then Tr.n l (some x) r else if i % 2 = 1 then Tr.n (Tr.setF x f l (i / 2)) v r else Tr.n l v (Tr.setF x f r (i / 2 - 1))).get j = if j = i then some x else (Tr.n l v r).get j := by
      intro l v r _
      by_cases hi : i = 0
      · subst hi
        rw [if_pos rfl, Tr.get_n, Tr.get_n]
        by_cases hj : j = 0
        · rw [if_pos hj, if_pos hj]
        · rw [if_neg hj, if_neg hj, if_neg hj]
      · rw [if_neg hi]
        by_cases hi' : i % 2 = 1
        · rw [if_pos hi', Tr.get_n, Tr.get_n]
          by_cases hj : j = 0
          · rw [if_pos hj, if_neg (by omega), if_pos hj]
          · rw [if_neg hj, if_neg hj]
            by_cases hj' : j % 2 = 1
            · rw [if_pos hj', if_pos hj', ih _ _ _ (by omega)]
              by_cases hij : j = i
              · rw [if_pos (by rw [hij]), if_pos hij]
              · rw [if_neg (by omega), if_neg hij]
            · rw [if_neg hj', if_neg hj', if_neg (by intro e; rw [e] at hj'; exact hj' hi')]
        · rw [if_neg hi', Tr.get_n, Tr.get_n]
          by_cases hj : j = 0
          · rw [if_pos hj, if_neg (by omega), if_pos hj]
          · rw [if_neg hj, if_neg hj]
            by_cases hj' : j % 2 = 1
            · rw [if_pos hj', if_pos hj', if_neg (by intro e; rw [e] at hj'; exact hi' hj')]
            · rw [if_neg hj', if_neg hj', ih _ _ _ (by omega)]
              by_cases hij : j = i
              · rw [if_pos (by rw [hij]), if_pos hij]
              · rw [if_neg (by omega), if_neg hij]
    cases t with
    | e =>
      have := key .e none .e (fun _ => .inr trivial)
      rw [Tr.setF_e, Tr.get_e]
      have h2 : (Tr.n (α := α) .e none .e).get j = none := by rw [Tr.get_n, Tr.get_e, Tr.get_e]; split <;> (try split) <;> rfl
      rw [h2] at this
      exact this
    | n l v r => rw [Tr.setF_n]; exact key l v r (fun _ => .inr trivial)
theorem Tr.get_set_eq (t : Tr α) (i j : Nat) (x : α) : (t.set i x).get j = if j = i then some x else t.get j :=
  Tr.get_setF_eq x _ t i j Nat.lt_log2_self
theorem Tr.get_set_self (t : Tr α) (i : Nat) (x : α) : (t.set i x).get i = some x := by rw [Tr.get_set_eq, if_pos rfl]
theorem Tr.get_set_ne (t : Tr α) {i j : Nat} (x : α) (h : j ≠ i) : (t.set i x).get j = t.get j := by rw [Tr.get_set_eq, if_neg h]
end
end Go.Ev
namespace Go.Ev
theorem runT_bind {α β : Type} (P : Program) (f : α → Sem β) (s : Sem α) : ∀ (w : World) (e0 : Array Event),
    (s >>= f).runT P w e0 = match s.runT P w e0 with
      | (.ok a w', e1) => (f a).runT P w' e1
      | (.halt h w', e1) => (.halt h w', e1) := by
  intro w e0
  show (s.bind f).runT P w e0 = _
  rw [Sem.runT_bind']
  cases s.runT P w e0 with
  | mk r e => cases r <;> rfl
def SRun {α : Type} (P : Program) (s : Sem α) (w : World) (r : α) (w' : World) (es : List Event) : Prop :=
  ∀ e0, s.runT P w e0 = (.ok r w', e0 ++ es.toArray)
section
variable {α β : Type} {P : Program} {w w1 w2 : World}
theorem SRun.pure (a : α) : SRun P (Pure.pure a : Sem α) w a w [] := fun e0 => by
  show (Sem.pure a).runT P w e0 = _
  unfold Sem.runT; simp
theorem SRun.bind {s : Sem α} {f : α → Sem β} {a : α} {b : β} {e1 e2 : List Event} (h1 : SRun P s w a w1 e1) (h2 : SRun P (f a) w1 b w2 e2) :
    SRun P (s >>= f) w b w2 (e1 ++ e2) := fun e0 => by
  rw [runT_bind, h1 e0]; simp only; rw [h2]; simp
theorem SRun.bind0 {s : Sem α} {f : α → Sem β} {a : α} {b : β} {e2 : List Event} (h1 : SRun P s w a w1 []) (h2 : SRun P (f a) w1 b w2 e2) :
    SRun P (s >>= f) w b w2 e2 := by simpa using SRun.bind h1 h2
theorem SRun.run {s : Sem α} {a : α} {es : List Event} (h : SRun P s w a w1 es) : s.run P w = .ok a w1 := by
  have := h #[]; rw [Sem.runT_eq] at this; exact (Prod.mk.inj this).1
theorem SRun.events {s : Sem α} {a : α} {es : List Event} (h : SRun P s w a w1 es) : s.events P w #[] = es.toArray := by
  have := h #[]; rw [Sem.runT_eq] at this; have := (Prod.mk.inj this).2; simpa using this
theorem SRun.load {a : Addr} {v : Value} (h : w.cell? a = some v) : SRun P (Go.load a) w v w [⟨.cell a, false, false⟩] := fun e0 => by
  unfold Go.load
  simp only [Sem.runT, h]
  simp [Sem.runT]; rfl
theorem SRun.store {a : Addr} {v v0 : Value} (h : w.cell? a = some v0) (hf : w.frozen? a = false) (hv : ∀ cs, v ≠ .agg cs) (ht : ∀ cs, v ≠ .tuple cs) :
    SRun P (Go.store a v) w () (w.setCell a v) [⟨.cell a, true, false⟩] := fun e0 => by
  unfold Go.store
  cases v <;> first
    | exact absurd rfl (hv _)
    | exact absurd rfl (ht _)
    | (simp only [Sem.runT, h, hf]; simp [Sem.runT]; rfl)
theorem SRun.new (o : Obj) : SRun P (newObj o) w w.heap.size { w with heap := w.heap.push o } [] := fun e0 => by
  unfold newObj; simp [Sem.runT]
theorem SRun.getObj {r : Nat} {o : Obj} (h : w.heap[r]? = some o) (hc : ∀ c e f, o ≠ .cells c e f) : SRun P (Go.getObj r) w o w [⟨.obj r, false, o.isChan⟩] := fun e0 => by
  unfold Go.getObj
  cases o <;> first
    | exact absurd rfl (hc _ _ _)
    | (simp only [Sem.runT, h]; simp [Sem.runT])
theorem SRun.setObj {r : Nat} {o o' : Obj} (h : w.heap[r]? = some o) (hc : ∀ c e f, o ≠ .cells c e f) :
    SRun P (Go.setObj r o') w () { w with heap := w.heap.setIfInBounds r o' } [⟨.obj r, true, o'.isChan⟩] := fun e0 => by
  unfold Go.setObj
  cases o <;> first
    | exact absurd rfl (hc _ _ _)
    | (simp only [Sem.runT, h]; simp [Sem.runT])
theorem SRun.mark (m : Mark) : SRun P (Go.mark m) w () w [⟨.mark m, false, true⟩] := fun e0 => by
  unfold Go.mark; simp [Sem.runT]
theorem SRun.program : SRun P Go.program w P w [] := fun e0 => by unfold Go.program; simp [Sem.runT]
theorem SRun.shape (r : Nat) : SRun P (Go.shape r) w (w.shape? r) w [] := fun e0 => by unfold Go.shape; simp [Sem.runT]
theorem SRun.frozen (a : Addr) : SRun P (Go.frozen a) w (w.frozen? a) w [] := fun e0 => by unfold Go.frozen; simp [Sem.runT]
theorem SRun.freeze (a : Addr) (n : Nat) : SRun P (Go.freeze a n) w () (w.freeze a n) [] := fun e0 => by unfold Go.freeze; simp [Sem.runT]
theorem SRun.choose (q : Question) : ∃ k w', SRun P (Go.choose q) w k w' [] ∧ (∃ d, w' = { w with drawn := d }) ∧ (∃ t, k = q.cut t ∨ k = 0 ∧ q.forced = true) := by
  by_cases hq : q.forced = true
  · exact ⟨0, w, fun e0 => by unfold Go.choose; simp [Sem.runT, hq], ⟨w.drawn, rfl⟩, 0, .inr ⟨rfl, hq⟩⟩
  · exact ⟨_, _, fun e0 => by unfold Go.choose; simp [Sem.runT, hq]; exact ⟨rfl, rfl⟩, ⟨_, rfl⟩, _, .inl rfl⟩
theorem SRun.typeInfo {t : TypeId} {i : TypeInfo} (h : P.info? t = some i) : SRun P (Go.typeInfo t) w i w [] := by
  unfold Go.typeInfo
  exact SRun.bind (e1 := []) SRun.program (by simp only [h]; exact SRun.pure i)
theorem SRun.underlying {t : TypeId} {d : TypeDesc} (h : P.underlying t = some d) : SRun P (Go.underlying t) w d w [] := by
  unfold Go.underlying
  exact SRun.bind (e1 := []) SRun.program (by simp only [h]; exact SRun.pure d)
theorem SRun.sizeOf {t : TypeId} {i : TypeInfo} (h : P.info? t = some i) : SRun P (Go.sizeOf t) w i.size w [] := by
  unfold Go.sizeOf
  exact SRun.bind (e1 := []) (SRun.typeInfo h) (SRun.pure _)
theorem SRun.zeroValue {t : TypeId} {i : TypeInfo} {v : Value} (h : P.info? t = some i) (hz : i.zero = some v) : SRun P (Go.zeroValue t) w v w [] := by
  unfold Go.zeroValue
  exact SRun.bind (e1 := []) (SRun.typeInfo h) (by simp only [hz]; exact SRun.pure v)
end
end Go.Ev
namespace Go.Ev
abbrev Nm := Nat → Option (Nat × Nat)
mutual
def RV (ι : Nm) : AV → Value → Prop
  | .any, _ => True
  | .one, v => scalV v = true
  | .bool b, v => v = .bool b
  | .int k x, v => v = .int k x
  | .str s, v => v = .string ⟨s.toArray⟩
  | .nilp, v => v = .pointer none
  | .ptr i o, v => ∃ p, ι i = some p ∧ v = .pointer (some ⟨p.1, o, none⟩)
  | .nils, v => v = .slice none 0 0
  | .emp, v => ∃ a c, v = .slice a 0 c
  | .sl i o l c, v => ∃ p, ι i = some p ∧ ∃ cap, v = .slice (some ⟨p.1, o, none⟩) l cap ∧ l ≤ cap ∧ (∀ k, c = some k → cap = k) ∧ (c = none → o = 0 → cap ≤ p.2)
  | .osl a n c, v => v = .slice (a.map fun p => ⟨p.1, p.2, none⟩) n c ∧ n ≤ c ∧ (a = none → n = 0 ∧ c = 0)
  | .nilm, v => v = .map none
  | .map i, v => ∃ p, ι i = some p ∧ v = .map (some p.1)
  | .nilf, v => v = .nilFunc
  | .fn f a b, v => ∃ as bs, v = .func (.func f) as bs ∧ RVs ι a as.toList ∧ RVs ι b bs.toList
  | .yield i, v => ∃ p, ι i = some p ∧ v = .func (.yield p.1) #[] #[]
  | .nili, v => v = .nilIface
  | .iface t a, v => ∃ x, v = .iface t x ∧ RV ι a x
  | .agg l, v => ∃ cs, v = .agg cs ∧ RVs ι l cs.toList
  | .tup l, v => ∃ cs, v = .tuple cs ∧ RVs ι l cs.toList
def RVs (ι : Nm) : List AV → List Value → Prop
  | [], vs => vs = []
  | a :: l, vs => ∃ v r, vs = v :: r ∧ RV ι a v ∧ RVs ι l r
end
theorem RVs_nil {ι : Nm} : RVs ι [] [] := by unfold RVs; rfl
theorem RVs_cons {ι : Nm} {a : AV} {v : Value} {l : List AV} {r : List Value} (h : RV ι a v) (h' : RVs ι l r) : RVs ι (a :: l) (v :: r) := by
  unfold RVs; exact ⟨v, r, rfl, h, h'⟩
theorem RVs_nil_inv {ι : Nm} {vs : List Value} (h : RVs ι [] vs) : vs = [] := by unfold RVs at h; exact h
theorem RVs_cons_inv {ι : Nm} {a : AV} {l : List AV} {vs : List Value} (h : RVs ι (a :: l) vs) : ∃ v r, vs = v :: r ∧ RV ι a v ∧ RVs ι l r := by
  unfold RVs at h; exact h
def Ext (ι ι' : Nm) : Prop := ∀ i p, ι i = some p → ι' i = some p
theorem Ext.refl (ι : Nm) : Ext ι ι := fun _ _ h => h
theorem Ext.trans {ι ι' ι'' : Nm} (h : Ext ι ι') (h' : Ext ι' ι'') : Ext ι ι'' := fun i p hi => h' i p (h i p hi)
mutual
theorem RV.mono {ι ι' : Nm} (he : Ext ι ι') : ∀ {a : AV} {v : Value}, RV ι a v → RV ι' a v
  | .any, _, _ => by unfold RV; trivial
  | .one, _, h | .bool _, _, h | .int _ _, _, h | .str _, _, h | .nilp, _, h | .nils, _, h | .emp, _, h | .nilm, _, h | .nilf, _, h | .nili, _, h | .osl _ _ _, _, h => by
    unfold RV at h ⊢; exact h
  | .ptr i o, v, h => by
    unfold RV at h ⊢; obtain ⟨p, hi, e⟩ := h; exact ⟨p, he _ _ hi, e⟩
  | .sl i o l c, v, h => by
    unfold RV at h ⊢; obtain ⟨p, hi, e⟩ := h; exact ⟨p, he _ _ hi, e⟩
  | .map i, v, h => by
    unfold RV at h ⊢; obtain ⟨p, hi, e⟩ := h; exact ⟨p, he _ _ hi, e⟩
  | .yield i, v, h => by
    unfold RV at h ⊢; obtain ⟨p, hi, e⟩ := h; exact ⟨p, he _ _ hi, e⟩
  | .fn f a b, v, h => by
    unfold RV at h ⊢; obtain ⟨as, bs, e, h1, h2⟩ := h; exact ⟨as, bs, e, RVs.mono he h1, RVs.mono he h2⟩
  | .iface t a, v, h => by
    unfold RV at h ⊢; obtain ⟨x, e, h1⟩ := h; exact ⟨x, e, RV.mono he h1⟩
  | .agg l, v, h => by
    unfold RV at h ⊢; obtain ⟨x, e, h1⟩ := h; exact ⟨x, e, RVs.mono he h1⟩
  | .tup l, v, h => by
    unfold RV at h ⊢; obtain ⟨x, e, h1⟩ := h; exact ⟨x, e, RVs.mono he h1⟩
theorem RVs.mono {ι ι' : Nm} (he : Ext ι ι') : ∀ {l : List AV} {vs : List Value}, RVs ι l vs → RVs ι' l vs
  | [], _, h => by rw [RVs_nil_inv h]; exact RVs_nil
  | a :: l, _, h => by
    obtain ⟨v, r, rfl, h1, h2⟩ := RVs_cons_inv h
    exact RVs_cons (RV.mono he h1) (RVs.mono he h2)
end
section
variable {ι : Nm}
theorem RVs.length {l : List AV} {vs : List Value} (h : RVs ι l vs) : l.length = vs.length := by
  induction l generalizing vs with
  | nil => rw [RVs_nil_inv h]; rfl
  | cons a l ih => obtain ⟨v, r, rfl, _, h2⟩ := RVs_cons_inv h; simp [ih h2]
theorem RVs.append {l m : List AV} {vs us : List Value} (h : RVs ι l vs) (h' : RVs ι m us) : RVs ι (l ++ m) (vs ++ us) := by
  induction l generalizing vs with
  | nil => rw [RVs_nil_inv h]; exact h'
  | cons a l ih => obtain ⟨v, r, rfl, h1, h2⟩ := RVs_cons_inv h; exact RVs_cons h1 (ih h2)
theorem RVs.get {l : List AV} {vs : List Value} (h : RVs ι l vs) {i : Nat} {a : AV} (hi : l[i]? = some a) : ∃ v, vs[i]? = some v ∧ RV ι a v := by
  induction l generalizing vs i with
  | nil => simp at hi
  | cons b l ih =>
    obtain ⟨v, r, rfl, h1, h2⟩ := RVs_cons_inv h
    cases i with
    | zero => simp at hi; subst hi; exact ⟨v, rfl, h1⟩
    | succ i => simp at hi; simpa using ih h2 hi
theorem RVs.of_get {l : List AV} {vs : List Value} (hl : l.length = vs.length) (h : ∀ (i : Nat) (a : AV) (v : Value), l[i]? = some a → vs[i]? = some v → RV ι a v) : RVs ι l vs := by
  induction l generalizing vs with
  | nil => cases vs with
    | nil => exact RVs_nil
    | cons _ _ => simp at hl
  | cons b l ih => cases vs with
    | nil => simp at hl
    | cons v r => exact RVs_cons (h 0 b v rfl rfl) (ih (by simpa using hl) fun i a x h1 h2 => h (i + 1) a x (by simpa using h1) (by simpa using h2))
theorem RVs.take {l : List AV} {vs : List Value} (h : RVs ι l vs) (k : Nat) : RVs ι (l.take k) (vs.take k) := by
  refine RVs.of_get (by simp [h.length]) fun i a v h1 h2 => ?_
  rw [List.getElem?_take] at h1 h2
  split at h1
  · rename_i hk; rw [if_pos hk] at h2
    obtain ⟨v', e, r⟩ := h.get h1; rw [e] at h2; cases h2; exact r
  · cases h1
theorem RVs.drop {l : List AV} {vs : List Value} (h : RVs ι l vs) (k : Nat) : RVs ι (l.drop k) (vs.drop k) := by
  refine RVs.of_get (by simp [h.length]) fun i a v h1 h2 => ?_
  rw [List.getElem?_drop] at h1 h2
  obtain ⟨v', e, r⟩ := h.get h1; rw [e] at h2; cases h2; exact r
theorem RVs.set {l : List AV} {vs : List Value} (h : RVs ι l vs) (k : Nat) {a : AV} {v : Value} (hv : RV ι a v) : RVs ι (l.set k a) (vs.set k v) := by
  refine RVs.of_get (by simp [h.length]) fun i b u h1 h2 => ?_
  rw [List.getElem?_set] at h1 h2
  split at h1
  · rename_i hk; rw [if_pos hk] at h2
    split at h1
    · rename_i hl; rw [if_pos (by rw [← h.length]; exact hl)] at h2
      cases h1; cases h2; exact hv
    · cases h1
  · rename_i hk; rw [if_neg hk] at h2
    obtain ⟨v', e, r⟩ := h.get h1; rw [e] at h2; cases h2; exact r
theorem RVs.getD {l : List AV} {vs : List Value} (h : RVs ι l vs) (k : Nat) {a : AV} {v : Value} (hv : RV ι a v) : RV ι (l.getD k a) (vs.getD k v) := by
  rw [List.getD_eq_getElem?_getD, List.getD_eq_getElem?_getD]
  cases hk : l[k]? with
  | none =>
    have : vs[k]? = none := by rw [List.getElem?_eq_none_iff] at hk ⊢; rw [← h.length]; exact hk
    rw [this]; exact hv
  | some b => obtain ⟨u, e, r⟩ := h.get hk; rw [e]; exact r
theorem RVs.map {α : Type} {l : List α} {f : α → AV} {g : α → Value} (h : ∀ x, x ∈ l → RV ι (f x) (g x)) : RVs ι (l.map f) (l.map g) := by
  induction l with
  | nil => exact RVs_nil
  | cons a l ih => exact RVs_cons (h a (by simp)) (ih fun x hx => h x (by simp [hx]))
theorem RVs.replicate {k : Nat} {a : AV} {v : Value} (h : RV ι a v) : RVs ι (List.replicate k a) (List.replicate k v) := by
  induction k with
  | zero => exact RVs_nil
  | succ k ih => simp only [List.replicate_succ]; exact RVs_cons h ih
theorem RV_undef : RV ι undefA undef := by unfold undefA RV; exact ⟨#[], rfl, RVs_nil⟩
theorem RV_scalar (v : Value) : RV ι (avScalar v) v := by
  unfold avScalar
  split
  all_goals first
    | (unfold RV; rfl)
    | (unfold RV; trivial)
    | skip
  · rename_i f a b
    cases ha : a.isEmpty <;> cases hb : b.isEmpty <;> simp only [Bool.and_self, Bool.and_false, Bool.and_true, cond_true, cond_false] <;> first
      | (unfold RV; trivial)
      | (unfold RV
         simp only [Array.isEmpty_iff] at ha hb
         subst ha; subst hb
         exact ⟨#[], #[], rfl, RVs_nil, RVs_nil⟩)
  · rename_i a
    cases ha : a.isEmpty
    · simp only [cond_false]; unfold RV; trivial
    · simp only [cond_true]; unfold RV
      simp only [Array.isEmpty_iff] at ha
      subst ha; exact ⟨#[], rfl, RVs_nil⟩
theorem RV_avOf (v : Value) : RV ι (avOf v) v := by
  unfold avOf
  split
  · rename_i cs
    unfold RV
    refine ⟨cs, rfl, ?_⟩
    have := RVs.map (ι := ι) (l := cs.toList) (f := avScalar) (g := id) fun x _ => RV_scalar x
    simpa using this
  · exact RV_scalar v
theorem scalV_cells {v : Value} (h : scalV v = true) : v.cells = #[v] := by
  cases v <;> first | rfl | cases h
theorem RV.cells {a : AV} {v : Value} (h : RV ι a v) (ha : a.isAny = false ∨ v.cells.size = 1) : RVs ι a.cells v.cells.toList := by
  cases a with
  | agg l =>
    unfold RV at h; obtain ⟨cs, rfl, h⟩ := h; exact h
  | any =>
    rcases ha with ha | ha
    · cases ha
    · show RVs ι [.any] _
      have : ∃ x, v.cells.toList = [x] := by
        have hl : v.cells.toList.length = 1 := by simpa using ha
        match v.cells.toList, hl with
        | [x], _ => exact ⟨x, rfl⟩
      obtain ⟨x, hx⟩ := this
      rw [hx]; exact RVs_cons (by unfold RV; trivial) RVs_nil
  | one =>
    have hs : scalV v = true := by unfold RV at h; exact h
    rw [scalV_cells hs]
    exact RVs_cons h RVs_nil
  | _ =>
    have hv : v.cells = #[v] := by
      unfold RV at h
      first
        | (obtain rfl := h; rfl)
        | (obtain ⟨_, rfl⟩ := h; rfl)
        | (obtain ⟨_, _, rfl⟩ := h; rfl)
        | (obtain ⟨_, _, rfl, _⟩ := h; rfl)
        | (obtain ⟨_, _, _, rfl, _⟩ := h; rfl)
        | (obtain ⟨_, rfl, _⟩ := h; rfl)
        | (obtain ⟨rfl, _⟩ := h; rfl)
    rw [hv]; exact RVs_cons h RVs_nil
end
def RT (ι : Nm) (nt : Nat) (tm : Tr AV) (tmps : Array Value) : Prop := tmps.size = nt ∧ ∀ t a, tm.get t = some a → RV ι a (tmps.getD t undef)
section
variable {ι : Nm} {nt : Nat} {tm : Tr AV} {tmps : Array Value}
theorem RT.mono {ι' : Nm} (he : Ext ι ι') (h : RT ι nt tm tmps) : RT ι' nt tm tmps := ⟨h.1, fun t a ht => (h.2 t a ht).mono he⟩
theorem RT.ev (h : RT ι nt tm tmps) (fr : Frame) (hf : fr.tmps = tmps) (x : Operand) : RV ι (ev tm x) (fr.eval x) := by
  cases x with
  | tmp t =>
    show RV ι (match tm.get t with | some v => v | none => .any) (fr.tmps.getD t undef)
    rw [hf]
    cases ht : tm.get t with
    | none => unfold RV; trivial
    | some a => exact h.2 t a ht
  | const v => exact RV_avOf v
  | global g => unfold RV Ev.ev; trivial
  | func g =>
    show RV ι (.fn g [] []) (.func (.func g) #[] #[])
    unfold RV; exact ⟨#[], #[], rfl, RVs_nil, RVs_nil⟩
theorem RT.put (h : RT ι nt tm tmps) {d : Nat} {a : AV} {v : Value} (hv : RV ι a v) : RT ι nt (tm.set d (cond (Nat.blt d nt) a undefA)) (tmps.setIfInBounds d v) := by
  refine ⟨by simpa using h.1, fun t b ht => ?_⟩
  rcases Tr.get_set ht with ⟨rfl, rfl⟩ | ⟨hne, ht'⟩
  · by_cases hlt : t < nt
    · have hb : Nat.blt t nt = true := by rw [Nat.blt_eq]; exact hlt
      rw [hb, cond_true]
      have : (tmps.setIfInBounds t v).getD t undef = v := by
        rw [Array.getD_eq_getD_getElem?, Array.getElem?_setIfInBounds_self_of_lt (by rw [h.1]; exact hlt)]; rfl
      rw [this]; exact hv
    · have hb : Nat.blt t nt = false := by cases hc : Nat.blt t nt with | false => rfl | true => rw [Nat.blt_eq] at hc; exact absurd hc hlt
      rw [hb, cond_false]
      have : (tmps.setIfInBounds t v).getD t undef = undef := by
        rw [Array.getD_eq_getD_getElem?, Array.getElem?_eq_none (by simp [h.1]; omega)]; rfl
      rw [this]; exact RV_undef
  · have : (tmps.setIfInBounds d v).getD t undef = tmps.getD t undef := by
      rw [Array.getD_eq_getD_getElem?, Array.getD_eq_getD_getElem?, Array.getElem?_setIfInBounds_ne (Ne.symm hne)]
    rw [this]; exact h.2 t b ht'
end
end Go.Ev
namespace Go.Ev
structure Ctx where
  P : Program
  W0 : World
  base : Nat
  lo : Nat
  own : Nat → Prop
  ownNew : ∀ b, lo ≤ b → own b
  peek : Prop
def EvF (K : Ctx) (size : Nat) (e : Event) : Prop :=
  match e.loc with
  | .cell a => (K.base ≤ a.block ∧ K.own a.block ∨ K.peek ∧ a.block < K.base ∧ e.write = false) ∧ a.block < size
  | .obj r => K.base ≤ r ∧ K.own r ∧ r < size ∧ e.sync = false
  | .mark m => match m with
    | .acquire a | .release a | .releaseMerge a | .read a | .write a => K.base ≤ a.block ∧ K.own a.block ∧ a.block < size
    | .disable | .enable => False
    | _ => True
  | _ => False
theorem EvF.mono {K : Ctx} {s s' : Nat} (h : s ≤ s') {e : Event} (he : EvF K s e) : EvF K s' e := by
  obtain ⟨loc, wr, sy⟩ := e
  cases loc with
  | cell a => exact ⟨he.1, by have := he.2; omega⟩
  | obj r => exact ⟨he.1, he.2.1, by have := he.2.2.1; omega, he.2.2.2⟩
  | mark m => cases m <;> first | exact ⟨he.1, he.2.1, by have := he.2.2; omega⟩ | exact he | trivial
  | output => exact he
  | goroutines => exact he
def REs (ι : Nm) : List AE → List MapEntry → Prop
  | [], es => es = []
  | a :: l, es => ∃ e r, es = e :: r ∧ RV ι a.key e.key ∧ RV ι a.val e.val ∧ e.born = a.born ∧ REs ι l r
theorem REs.mono {ι ι' : Nm} (he : Ext ι ι') {l : List AE} {es : List MapEntry} (h : REs ι l es) : REs ι' l es := by
  induction l generalizing es with
  | nil => exact h
  | cons a l ih =>
    obtain ⟨e, r, rfl, h1, h2, h3, h4⟩ := h
    exact ⟨e, r, rfl, h1.mono he, h2.mono he, h3, ih h4⟩
def AO.live : AO → Prop
  | .dead => False
  | _ => True
def RO (P : Program) (ι : Nm) (cap : Nat) : AO → Obj → Prop
  | .dead, _ => True
  | .cells vs el g fz, ob => ∃ (c : Array Value) (lo hi : Nat), ob = .cells c el (lo, hi) ∧ (∃ l1 l2, c.toList = l1 ++ l2 ∧ RVs ι vs l1) ∧
      (g = false → c.size = vs.length) ∧ (g = true → c.size = cap * P.cellsOf el) ∧ (fz = false → (∀ o, o < c.size → ¬ (lo ≤ o ∧ o < hi)) ∧ (g = false → lo = 0 ∧ hi = 0))
  | .map es ck, ob => ∃ es', ob = .map es' ck ∧ REs ι es es'.toList
  | .mit m s seen st, ob => ∃ b, (∀ j, m = some j → ∃ p, ι j = some p ∧ b = some p.1) ∧ (m = none → b = none) ∧ ob = .mapIter b s seen.toArray st
  | .sit s p, ob => ob = .stringIter ⟨s.toArray⟩ p
  | .loop st pd fn nt tm ps a b d, ob => ∃ q, ι d = some q ∧ ∃ L : Loop, ob = .loop L ∧ L.state = st ∧ L.pending = pd ∧ L.fn = fn ∧ RT ι nt tm L.tmps ∧ L.params.toList = ps ∧ L.assign = a ∧ L.body = b ∧ L.defers = q.1
  | .dfr z, ob => ob = .deferred (cond z none (some []))
theorem RO.mono {P : Program} {ι ι' : Nm} {cap : Nat} (he : Ext ι ι') {o : AO} {ob : Obj} (h : RO P ι cap o ob) : RO P ι' cap o ob := by
  cases o with
  | dead => trivial
  | cells vs el g fz =>
    obtain ⟨c, lo, hi', e, ⟨l1, l2, e2, hv⟩, h1, h2, h3⟩ := h
    exact ⟨c, lo, hi', e, ⟨l1, l2, e2, hv.mono he⟩, h1, h2, h3⟩
  | map es ck => obtain ⟨es', e, h1⟩ := h; exact ⟨es', e, h1.mono he⟩
  | mit m s seen st =>
    obtain ⟨b, h1, h2, e⟩ := h
    exact ⟨b, fun j hj => by obtain ⟨p, hp, hb⟩ := h1 j hj; exact ⟨p, he _ _ hp, hb⟩, h2, e⟩
  | sit s p => exact h
  | loop st pd fn nt tm ps a b d =>
    obtain ⟨q, hd, L, e, h1, h2, h3, h4, h5, h6, h7, h8⟩ := h
    exact ⟨q, he _ _ hd, L, e, h1, h2, h3, h4.mono he, h5, h6, h7, h8⟩
  | dfr z => exact h
def oldNm : Nm := fun i => if OLD ≤ i then some (i - OLD, 0) else none
theorem oldNm_old (b : Nat) : oldNm (OLD + b) = some (b, 0) := by
  unfold oldNm
  rw [if_pos (Nat.le_add_right _ _), Nat.add_sub_cancel_left]
structure Of (K : Ctx) (P : Program) (E : Env) : Prop where
  P : K.P = P
  mem : ∀ b o a, E.old b o = some a → K.peek ∧ b < K.base ∧ ∃ v, K.W0.cell? ⟨b, o, none⟩ = some v ∧ RV oldNm a v
  pk : E.peek = true → K.peek
structure Sat (K : Ctx) (ι : Nm) (h : AH) (w : World) : Prop where
  objs : ∀ i o, h.tr.get i = some o → o.live → ∃ p ob, ι i = some p ∧ K.base ≤ p.1 ∧ K.own p.1 ∧ w.heap[p.1]? = some ob ∧ RO K.P ι p.2 o ob
  inj : ∀ i j o o' p q, h.tr.get i = some o → h.tr.get j = some o' → o.live → o'.live → ι i = some p → ι j = some q → p.1 = q.1 → i = j
  lo : K.lo ≤ w.heap.size
  bs : K.base ≤ w.heap.size
  old : ∀ b, b < K.base → w.heap[b]? = K.W0.heap[b]?
  os : w.os = K.W0.os
  tape : w.tape = K.W0.tape
  output : w.output = K.W0.output
  oldn : K.peek → Ext oldNm ι
structure Fine (K : Ctx) (w w' : World) (es : List Event) : Prop where
  size : w.heap.size ≤ w'.heap.size
  kept : ∀ b, b < w.heap.size → ¬ (K.base ≤ b ∧ K.own b) → w'.heap[b]? = w.heap[b]?
  evs : ∀ e ∈ es, EvF K w'.heap.size e
theorem AH.obj_live {h : AH} {i : Nat} {o : AO} (e : h.obj i = o) (hl : o.live) : h.tr.get i = some o := by
  unfold AH.obj at e
  cases hg : h.tr.get i with
  | none => rw [hg] at e; subst e; exact hl.elim
  | some p => rw [hg] at e; simp at e; rw [e]
section
variable {K : Ctx} {ι : Nm} {h : AH} {w : World}
theorem Sat.at (S : Sat K ι h w) {i : Nat} {o : AO} (e : h.obj i = o) (hl : o.live) :
    ∃ p ob, ι i = some p ∧ K.base ≤ p.1 ∧ K.own p.1 ∧ p.1 < w.heap.size ∧ w.heap[p.1]? = some ob ∧ RO K.P ι p.2 o ob := by
  obtain ⟨p, ob, h1, h2, h3, h4, h5⟩ := S.objs i o (AH.obj_live e hl) hl
  refine ⟨p, ob, h1, h2, h3, ?_, h4, h5⟩
  have := h4
  rw [Array.getElem?_eq_some_iff] at this
  exact this.1
theorem cell_of {b o : Nat} {c : Array Value} {T : TypeId} {fz : Nat × Nat} (hb : w.heap[b]? = some (.cells c T fz)) : w.cell? ⟨b, o, none⟩ = c[o]? := by
  unfold World.cell?; simp [hb]
theorem frozen_of {b o : Nat} {c : Array Value} {T : TypeId} {lo hi : Nat} (hb : w.heap[b]? = some (.cells c T (lo, hi))) : w.frozen? ⟨b, o, none⟩ = (decide (lo ≤ o) && decide (o < hi)) := by
  unfold World.frozen?; simp [hb]
theorem Sat.cell (S : Sat K ι h w) {i : Nat} {p : Nat × Nat} (hp : ι i = some p) {vs : List AV} {el : TypeId} {g z : Bool} (e : h.obj i = .cells vs el g z) {o : Nat} {a : AV} (ha : vs[o]? = some a) :
    ∃ v, w.cell? ⟨p.1, o, none⟩ = some v ∧ RV ι a v := by
  obtain ⟨q, ob, hq, _, _, _, hb, c, lo, hi, rfl, ⟨l1, l2, hc, hv⟩, _⟩ := S.at e trivial
  obtain rfl : p = q := by rw [hp] at hq; exact Option.some.inj hq
  obtain ⟨v, h1, h2⟩ := hv.get ha
  refine ⟨v, ?_, h2⟩
  rw [cell_of hb, ← Array.getElem?_toList, hc, List.getElem?_append_left]
  · exact h1
  · have := h1; rw [List.getElem?_eq_some_iff] at this; exact this.1
theorem Sat.drawn (S : Sat K ι h w) (d : Nat) : Sat K ι h { w with drawn := d } :=
  ⟨S.objs, S.inj, S.lo, S.bs, S.old, S.os, S.tape, S.output, S.oldn⟩
end
structure TIok (P : Program) (t : TypeId) (ti : TI) : Prop where
  info : ∃ i z, P.info? t = some i ∧ i.size = ti.size ∧ i.bytes = ti.bytes ∧ i.zero = some z ∧ (∀ ι, RV ι ti.zeroV z) ∧ (∀ ι, RVs ι ti.zero z.cells.toList) ∧ z.cells.size = ti.size ∧ ti.zero.length = ti.size
  desc : ∃ d, P.underlying t = some d ∧ match ti.d, d with
    | .bool, .bool => True
    | .int k, .int k' => k = k'
    | .str, .string => True
    | .ptr e, .pointer e' => e = e'
    | .slice e, .slice e' => e = e'
    | .map k e, .map k' e' => k = k' ∧ e = e' ∧ ∃ kd, P.underlying k = some kd
    | .func, .func _ _ _ => True
    | .iface b, .interface ms => b = ms.isEmpty
    | .struct fs, .struct gs => fs.length = gs.size ∧ ∀ (i : Nat) (x : Nat × Nat × TypeId) (g : Field), fs[i]? = some x → gs[i]? = some g → x.1 = g.offset ∧ x.2.2 = g.type ∧ ∃ gi, P.info? g.type = some gi ∧ gi.size = x.2.1
    | .array n e, .array n' e' => n = n' ∧ e = e'
    | .uptr, .unsafePointer => True
    | .tuple, .tuple _ => True
    | _, _ => False
end Go.Ev
namespace Go.Ev
structure Fits (P : Program) (E : Env) : Prop where
  depth : 1 ≤ P.depth
  meth : ∀ t m g, (t, m, g) ∈ E.meth → ∀ (v : Value) (w : World), SRun P (method (P.types.size + Made.depth) t v m) w (g, v) w []
  lies : ∀ el u, (el, u) ∈ E.lies → liesAt P P.depth el 1 0 u 1 = true
  tt : ∀ t ti, E.tt.get t = some ti → TIok P t ti
  flat : ∀ t ks, (t, ks) ∈ E.flat → ∃ gs, P.underlying t = some gs ∧ ∀ (x : Array Value) (l : List AV) (ι : Nm) (w : World), RVs ι l x.toList → kindL ks l = true →
    (∀ b, SRun P (Instr.checkKey b 10000 t (.agg x)) w () w []) ∧
    ∀ (y : Array Value) (m : List AV) (r : Bool), RVs ι m y.toList → eqL l m = some r →
    ∀ (o1 o2 : Operand), ∀ op, (op = BinOp.eql ∨ op = BinOp.neq) → SRun P (eqGuard op t o1 o2 (.agg x) (.agg y)) w () w [] ∧ SRun P (Op.equal t (.agg x) (.agg y)) w r w []
theorem Fits.flatOk {P : Program} {E : Env} (F : Fits P E) {t : TypeId} {l : List AV} (h : flatOk E t l = true) :
    ∃ gs, P.underlying t = some gs ∧ ∀ (x : Array Value) (ι : Nm) (w : World), RVs ι l x.toList →
    (∀ b, SRun P (Instr.checkKey b 10000 t (.agg x)) w () w []) ∧
    ∀ (y : Array Value) (m : List AV) (r : Bool), RVs ι m y.toList → eqL l m = some r →
    ∀ (o1 o2 : Operand), ∀ op, (op = BinOp.eql ∨ op = BinOp.neq) → SRun P (eqGuard op t o1 o2 (.agg x) (.agg y)) w () w [] ∧ SRun P (Op.equal t (.agg x) (.agg y)) w r w [] := by
  unfold Ev.flatOk at h
  rw [List.any_eq_true] at h
  obtain ⟨p, hp, h⟩ := h
  rw [Bool.and_eq_true] at h
  obtain ⟨h1, h2⟩ := h
  obtain ⟨t', ks⟩ := p
  have e : t' = t := Nat.eq_of_beq_eq_true h1
  subst e
  obtain ⟨gs, hu, hf⟩ := F.flat _ _ hp
  exact ⟨gs, hu, fun x ι w hx => hf x l ι w hx h2⟩
section
variable {P : Program} {K : Ctx} {ι : Nm} {h : AH} {w : World}
def DM : TD → TypeDesc → Prop
  | .bool, .bool => True
  | .int k, .int k' => k = k'
  | .str, .string => True
  | .ptr e, .pointer e' => e = e'
  | .slice e, .slice e' => e = e'
  | .map k e, .map k' e' => k = k' ∧ e = e'
  | .func, .func _ _ _ => True
  | .iface b, .interface ms => b = ms.isEmpty
  | .struct fs, .struct gs => fs.length = gs.size
  | .array n e, .array n' e' => n = n' ∧ e = e'
  | .uptr, .unsafePointer => True
  | .tuple, .tuple _ => True
  | _, _ => False
theorem add_none (b o k : Nat) : (⟨b, o, none⟩ : Addr).add k = ⟨b, o + k, none⟩ := by
  unfold Addr.add; split
  · rename_i h; subst h; rfl
  · rfl
theorem SRun_isAgg {t : TypeId} {ti : TI} (H : TIok P t ti) : SRun P (isAgg t) w ti.isAgg w [] := by
  obtain ⟨d, hd, hm⟩ := H.desc
  unfold isAgg
  refine SRun.bind (e1 := []) (SRun.underlying hd) ?_
  unfold TI.isAgg
  cases h1 : ti.d <;> rw [h1] at hm <;> cases d <;> first
    | exact hm.elim
    | exact SRun.pure _
theorem SRun_sizeOf {t : TypeId} {ti : TI} (H : TIok P t ti) : SRun P (sizeOf t) w ti.size w [] := by
  obtain ⟨i, z, hi, hs, _⟩ := H.info
  rw [← hs]; exact SRun.sizeOf hi
theorem takeN_some {l r : List AV} {off n : Nat} (e : takeN l off n = some r) : r = (l.drop off).take n ∧ r.length = n := by
  unfold takeN at e
  cases hb : Nat.beq ((l.drop off).take n).length n with
  | false => simp only [hb, cond_false] at e; cases e
  | true =>
    simp only [hb, cond_true, Option.some.injEq] at e
    exact ⟨e.symm, by rw [← e]; exact Nat.eq_of_beq_eq_true hb⟩
theorem SRun_cellsFrom {b off : Nat} : ∀ (n k : Nat) (acc : Array Value) (vs : List Value), vs.length = n → (∀ j v, vs[j]? = some v → w.cell? ⟨b, off + (k + j), none⟩ = some v) →
    ∃ es, SRun P (loadCellsFrom ⟨b, off, none⟩ k n acc) w (acc ++ vs.toArray) w es ∧ ∀ e ∈ es, ∃ o, e = ⟨.cell ⟨b, o, none⟩, false, false⟩
  | 0, k, acc, vs, hl, _ => by
    obtain rfl : vs = [] := List.length_eq_zero_iff.1 hl
    refine ⟨[], ?_, by simp⟩
    unfold loadCellsFrom; simpa using SRun.pure acc
  | n + 1, k, acc, v :: vs, hl, hc => by
    have h0 := hc 0 v rfl
    obtain ⟨es, h1, h2⟩ := SRun_cellsFrom n (k + 1) (acc.push v) vs (by simpa using hl) fun j u hu => by
      have := hc (j + 1) u (by simpa using hu)
      rw [show off + (k + 1 + j) = off + (k + (j + 1)) by omega]; exact this
    refine ⟨[⟨.cell ⟨b, off + k, none⟩, false, false⟩] ++ es, ?_, ?_⟩
    · unfold loadCellsFrom
      refine SRun.bind (w1 := w) (a := v) ?_ ?_
      · rw [add_none]; exact SRun.load h0
      · have : acc ++ (v :: vs).toArray = acc.push v ++ vs.toArray := by simp
        rw [this]; exact h1
    · intro e he
      rcases List.mem_append.1 he with he | he
      · simp at he; subst he; exact ⟨off + k, rfl⟩
      · exact h2 e he
theorem oldC_some {old : Nat → Nat → Option AV} {b : Nat} : ∀ (n off : Nat) {r : List AV}, oldC old b off n = some r → r.length = n ∧ ∀ j a, r[j]? = some a → old b (off + j) = some a
  | 0, off, r, e => by cases e; exact ⟨rfl, by simp⟩
  | n + 1, off, r, e => by
    unfold oldC at e
    split at e
    · rename_i v l h1 h2
      cases e
      obtain ⟨k1, k2⟩ := oldC_some n (off + 1) h2
      refine ⟨by simp [k1], fun j a hj => ?_⟩
      cases j with
      | zero => simp at hj; subst hj; exact h1
      | succ j => simp at hj; have := k2 j a hj; rw [← this]; congr 1; omega
    · cases e
theorem Sat.oldcell (S : Sat K ι h w) {E : Env} (hO : Of K P E) {b o : Nat} {a : AV} (e : E.old b o = some a) : ∃ v, w.cell? ⟨b, o, none⟩ = some v ∧ RV ι a v ∧ K.peek ∧ b < K.base := by
  obtain ⟨h1, h2, v, h3, h4⟩ := hO.mem b o a e
  refine ⟨v, ?_, h4.mono (S.oldn h1), h1, h2⟩
  rw [← h3]
  unfold World.cell?
  rw [S.old b h2]
theorem oldname {i : Nat} {p : Nat × Nat} (S : Sat K ι h w) (hk : K.peek) (hp : ι i = some p) (hi : OLD ≤ i) : p = (i - OLD, 0) := by
  have := S.oldn hk i (i - OLD, 0) (by unfold oldNm; rw [if_pos hi])
  rw [hp] at this; exact Option.some.inj this
theorem Sat.loadC (S : Sat K ι h w) {E : Env} (hO : Of K P E) {i off n : Nat} {p : Nat × Nat} (hp : ι i = some p) {r : List AV} (e : loadC E h i off n = some r) :
    ∃ vs : List Value, vs.length = n ∧ RVs ι r vs ∧ (∀ j v, vs[j]? = some v → w.cell? ⟨p.1, off + j, none⟩ = some v) ∧ (vs ≠ [] → (K.base ≤ p.1 ∧ K.own p.1 ∨ K.peek ∧ p.1 < K.base) ∧ p.1 < w.heap.size) := by
  unfold Ev.loadC at e
  cases hb : Nat.ble OLD i with
  | true =>
    rw [hb, cond_true] at e
    obtain ⟨k1, k2⟩ := oldC_some n off e
    by_cases hr0 : r = []
    · subst hr0
      exact ⟨[], by simpa using k1, RVs_nil, by simp, fun h => absurd rfl h⟩
    have hpk : K.peek := by
      match r, k2, hr0 with
      | [], _, h => exact absurd rfl h
      | a :: l, k2, _ => exact (hO.mem _ _ _ (k2 0 a rfl)).1
    obtain rfl := oldname S hpk hp (Nat.le_of_ble_eq_true hb)
    have : ∀ (l : List AV) (off : Nat), (∀ j a, l[j]? = some a → E.old (i - OLD) (off + j) = some a) → ∃ vs : List Value, vs.length = l.length ∧ RVs ι l vs ∧ ∀ j v, vs[j]? = some v → w.cell? ⟨i - OLD, off + j, none⟩ = some v := by
      intro l
      induction l with
      | nil => intro _ _; exact ⟨[], rfl, RVs_nil, by simp⟩
      | cons a l ih =>
        intro off hl
        obtain ⟨v, g1, g2, _⟩ := S.oldcell hO (hl 0 a rfl)
        obtain ⟨vs, g3, g4, g5⟩ := ih (off + 1) (fun j a hj => by have := hl (j + 1) a (by simpa using hj); rw [← this]; congr 1; omega)
        refine ⟨v :: vs, by simp [g3], RVs_cons g2 g4, fun j u hj => ?_⟩
        cases j with
        | zero => simp at hj; subst hj; exact g1
        | succ j => simp at hj; have := g5 j u hj; rw [← this]; congr 2; omega
    obtain ⟨vs, g1, g2, g3⟩ := this r off k2
    refine ⟨vs, by rw [g1, k1], g2, g3, fun hne => ?_⟩
    match r, k2, g1 with
    | [], _, g1 => exact absurd (List.length_eq_zero_iff.1 g1) hne
    | a :: l, k2, _ =>
      obtain ⟨_, _, _, h1, h2⟩ := S.oldcell hO (k2 0 a rfl)
      exact ⟨.inr ⟨h1, h2⟩, Nat.lt_of_lt_of_le h2 S.bs⟩
  | false =>
  rw [hb, cond_false] at e
  split at e
  · rename_i vs el g z ho
    obtain ⟨hr, hn⟩ := takeN_some e
    obtain ⟨q, ob, hq, h2, h3, h4, hb, c, lo, hi, rfl, ⟨l1, l2, hc, hv⟩, _⟩ := S.at ho trivial
    obtain rfl : p = q := by rw [hp] at hq; exact Option.some.inj hq
    refine ⟨(l1.drop off).take n, ?_, ?_, ?_, fun _ => ⟨.inl ⟨h2, h3⟩, h4⟩⟩
    · rw [← hn, hr]; simp [hv.length]
    · rw [hr]; exact (hv.drop off).take n
    · intro j v hj
      rw [cell_of hb, ← Array.getElem?_toList, hc]
      rw [List.getElem?_take] at hj
      split at hj
      · rw [List.getElem?_drop] at hj
        rw [List.getElem?_append_left]
        · exact hj
        · rw [List.getElem?_eq_some_iff] at hj; exact hj.1
      · cases hj
  · cases e
theorem unS_ok (S : Sat K ι h w) {E : Env} (hO : Of K P E) {x : AV} {v : Value} (hv : RV ι x v) : RV ι (unS E x) v := by
  cases x with
  | osl a n c =>
    unfold RV at hv
    obtain ⟨rfl, h1, h2⟩ := hv
    cases a with
    | none =>
      obtain ⟨rfl, rfl⟩ := h2 rfl
      show RV ι .nils _
      unfold RV; rfl
    | some p =>
      show RV ι (cond E.peek (.sl (OLD + p.1) p.2 n (some c)) .any) _
      cases hp : E.peek with
      | false => rw [cond_false]; unfold RV; trivial
      | true =>
        rw [cond_true]
        unfold RV
        refine ⟨(p.1, 0), S.oldn (hO.pk hp) _ _ (oldNm_old _), c, rfl, h1, fun k hk => by cases hk; rfl, fun hk => by cases hk⟩
  | _ => exact hv
theorem SRun_loadCells (S : Sat K ι h w) {E : Env} (hO : Of K P E) {i off n : Nat} {p : Nat × Nat} (hp : ι i = some p) {r : List AV} (e : loadC E h i off n = some r) :
    ∃ (vs : Array Value) (es : List Event), SRun P (loadCells ⟨p.1, off, none⟩ n) w vs w es ∧ RVs ι r vs.toList ∧ vs.size = n ∧ ∀ e ∈ es, EvF K w.heap.size e := by
  obtain ⟨vs, hl, hv, hc, h2⟩ := S.loadC hO hp e
  obtain ⟨es, hr, he⟩ := SRun_cellsFrom (P := P) (w := w) (b := p.1) (off := off) n 0 #[] vs hl fun j v hj => by simpa using hc j v hj
  cases vs with
  | nil =>
    simp at hl
    subst hl
    refine ⟨#[], [], ?_, by simpa using hv, rfl, by simp⟩
    unfold loadCells loadCellsFrom
    exact SRun.pure _
  | cons v0 vs0 =>
  obtain ⟨h3, h4⟩ := h2 (by simp)
  refine ⟨(v0 :: vs0).toArray, es, by unfold loadCells; simpa using hr, by simpa using hv, by simpa using hl, fun e hm => ?_⟩
  obtain ⟨o, rfl⟩ := he e hm
  exact ⟨h3.imp id fun h => ⟨h.1, h.2, rfl⟩, h4⟩
theorem SRun_loadCellsO (S : Sat K ι h w) {i off n : Nat} {p : Nat × Nat} (hp : ι i = some p) {vs : List AV} {el : TypeId} {g z : Bool} (ho : h.obj i = .cells vs el g z) {r : List AV} (e : takeN vs off n = some r) :
    ∃ (vs : Array Value) (es : List Event), SRun P (loadCells ⟨p.1, off, none⟩ n) w vs w es ∧ RVs ι r vs.toList ∧ vs.size = n ∧ ∀ e ∈ es, EvF K w.heap.size e := by
  obtain ⟨hr, hn⟩ := takeN_some e
  obtain ⟨q, ob, hq, h2, h3, h4, hb, c, lo, hi, rfl, ⟨l1, l2, hc, hv⟩, _⟩ := S.at ho trivial
  obtain rfl : p = q := by rw [hp] at hq; exact Option.some.inj hq
  have hl : ((l1.drop off).take n).length = n := by rw [← hn, hr]; simp [hv.length]
  have hcell : ∀ j v, ((l1.drop off).take n)[j]? = some v → w.cell? ⟨p.1, off + j, none⟩ = some v := by
    intro j v hj
    rw [cell_of hb, ← Array.getElem?_toList, hc]
    rw [List.getElem?_take] at hj
    split at hj
    · rw [List.getElem?_drop] at hj
      rw [List.getElem?_append_left]
      · exact hj
      · rw [List.getElem?_eq_some_iff] at hj; exact hj.1
    · cases hj
  obtain ⟨es, hrun, he⟩ := SRun_cellsFrom (P := P) (w := w) (b := p.1) (off := off) n 0 #[] ((l1.drop off).take n) hl fun j v hj => by simpa using hcell j v hj
  refine ⟨((l1.drop off).take n).toArray, es, by unfold loadCells; simpa using hrun, by rw [hr]; simpa using (hv.drop off).take n, by simpa using hl, fun e hm => ?_⟩
  obtain ⟨o, rfl⟩ := he e hm
  exact ⟨.inl ⟨h2, h3⟩, h4⟩
theorem SRun_loadVar (S : Sat K ι h w) {E : Env} (hO : Of K P E) (F : Fits P E) {t : TypeId} {i off : Nat} {p : Nat × Nat} (hp : ι i = some p) {a : AV} (e : loadT E h t i off = some a) :
    ∃ v es, SRun P (loadVar t ⟨p.1, off, none⟩) w v w es ∧ RV ι a v ∧ ∀ e ∈ es, EvF K w.heap.size e := by
  unfold loadT at e
  cases ht : E.tt.get t with
  | none => rw [ht] at e; cases e
  | some ti =>
    rw [ht] at e
    have H := F.tt t ti ht
    unfold loadVar
    cases hag : ti.isAgg with
    | true =>
      simp only [hag, cond_true] at e
      cases hl : Ev.loadC E h i off ti.size with
      | none => rw [hl] at e; cases e
      | some r =>
        rw [hl] at e; simp at e; subst e
        obtain ⟨vs, es, h1, h2, h3, h4⟩ := SRun_loadCells (P := P) S hO hp hl
        refine ⟨.agg vs, es, ?_, by unfold RV; exact ⟨vs, rfl, h2⟩, h4⟩
        refine SRun.bind0 (SRun_isAgg (w := w) H) ?_
        rw [hag, if_pos rfl]
        refine SRun.bind0 (SRun_sizeOf (w := w) H) ?_
        have h5 := SRun.bind h1 (SRun.pure (P := P) (w := w) (Value.agg vs)) (f := fun x => Pure.pure (Value.agg x))
        simpa using h5
    | false =>
      simp only [hag, cond_false] at e
      cases hb : Nat.ble OLD i with
      | true =>
        rw [hb, cond_true] at e
        obtain rfl := oldname S (hO.mem _ _ _ e).1 hp (Nat.le_of_ble_eq_true hb)
        obtain ⟨v, h1, h2, h3, h4⟩ := S.oldcell hO e
        refine ⟨v, [⟨.cell ⟨i - OLD, off, none⟩, false, false⟩], ?_, h2, by intro e he; simp at he; subst he; exact ⟨.inr ⟨h3, h4, rfl⟩, Nat.lt_of_lt_of_le h4 S.bs⟩⟩
        refine SRun.bind0 (SRun_isAgg (w := w) H) ?_
        rw [hag, if_neg (by decide)]
        exact SRun.load h1
      | false =>
      rw [hb, cond_false] at e
      split at e
      · rename_i vs el g z ho
        obtain ⟨v, h1, h2⟩ := S.cell hp ho e
        obtain ⟨q, ob, hq, b1, b2, b3, _⟩ := S.at ho trivial
        obtain rfl : p = q := by rw [hp] at hq; exact Option.some.inj hq
        refine ⟨v, [⟨.cell ⟨p.1, off, none⟩, false, false⟩], ?_, h2, by intro e he; simp at he; subst he; exact ⟨.inl ⟨b1, b2⟩, b3⟩⟩
        refine SRun.bind0 (SRun_isAgg (w := w) H) ?_
        rw [hag, if_neg (by decide)]
        exact SRun.load h1
      · cases e
end
end Go.Ev
namespace Go.Ev
def QOk (P : Program) (K : Ctx) (ι : Nm) (w : World) (s : Sem Value) (a : AV) : Prop :=
  ∃ v es, SRun P s w v w es ∧ RV ι a v ∧ ∀ e ∈ es, EvF K w.heap.size e
section
variable {P : Program} {K : Ctx} {ι : Nm} {h : AH} {w : World} {E : Env}
theorem QOk.pure {v : Value} {a : AV} (h : RV ι a v) : QOk P K ι w (Pure.pure v) a := ⟨v, [], SRun.pure v, h, by simp⟩
theorem QOk.bind0 {α : Type} {s : Sem α} {f : α → Sem Value} {x : α} {a : AV} (h1 : SRun P s w x w []) (h2 : QOk P K ι w (f x) a) : QOk P K ι w (s >>= f) a := by
  obtain ⟨v, es, h3, h4, h5⟩ := h2
  exact ⟨v, es, by simpa using SRun.bind h1 h3, h4, h5⟩
theorem QOk.bindE {α : Type} {s : Sem α} {f : α → Sem Value} {x : α} {a : AV} {e1 : List Event} (h1 : SRun P s w x w e1) (he : ∀ e ∈ e1, EvF K w.heap.size e) (h2 : QOk P K ι w (f x) a) : QOk P K ι w (s >>= f) a := by
  obtain ⟨v, es, h3, h4, h5⟩ := h2
  refine ⟨v, e1 ++ es, SRun.bind h1 h3, h4, fun e hm => ?_⟩
  rcases List.mem_append.1 hm with hm | hm
  · exact he e hm
  · exact h5 e hm
theorem d_of {t : TypeId} {d : TD} (F : Fits P E) (e : E.d t = some d) : ∃ ti, E.tt.get t = some ti ∧ ti.d = d ∧ TIok P t ti := by
  unfold Env.d at e
  cases ht : E.tt.get t with
  | none => rw [ht] at e; cases e
  | some ti => rw [ht] at e; simp at e; exact ⟨ti, rfl, e, F.tt t ti ht⟩
theorem desc_slice {t e : TypeId} (F : Fits P E) (hd : E.d t = some (.slice e)) : P.underlying t = some (.slice e) := by
  obtain ⟨ti, _, h2, H⟩ := d_of F hd
  obtain ⟨d, h3, h4⟩ := H.desc
  rw [h2] at h4
  cases d <;> first | exact h4.elim | (simp only at h4; subst h4; exact h3)
theorem desc_array {t e : TypeId} {k : Nat} (F : Fits P E) (hd : E.d t = some (.array k e)) : P.underlying t = some (.array k e) := by
  obtain ⟨ti, _, h2, H⟩ := d_of F hd
  obtain ⟨d, h3, h4⟩ := H.desc
  rw [h2] at h4
  cases d <;> first | exact h4.elim | (obtain ⟨rfl, rfl⟩ := h4; exact h3)
theorem desc_ptr {t e : TypeId} (F : Fits P E) (hd : E.d t = some (.ptr e)) : P.underlying t = some (.pointer e) := by
  obtain ⟨ti, _, h2, H⟩ := d_of F hd
  obtain ⟨d, h3, h4⟩ := H.desc
  rw [h2] at h4
  cases d <;> first | exact h4.elim | (simp only at h4; subst h4; exact h3)
theorem desc_map {t k e : TypeId} (F : Fits P E) (hd : E.d t = some (.map k e)) : P.underlying t = some (.map k e) ∧ ∃ kd, P.underlying k = some kd := by
  obtain ⟨ti, _, h2, H⟩ := d_of F hd
  obtain ⟨d, h3, h4⟩ := H.desc
  rw [h2] at h4
  cases d <;> first | exact h4.elim | (obtain ⟨rfl, rfl, h5⟩ := h4; exact ⟨h3, h5⟩)
theorem desc_int {t : TypeId} {k : IntKind} (F : Fits P E) (hd : E.d t = some (.int k)) : P.underlying t = some (.int k) := by
  obtain ⟨ti, _, h2, H⟩ := d_of F hd
  obtain ⟨d, h3, h4⟩ := H.desc
  rw [h2] at h4
  cases d <;> first | exact h4.elim | (simp only at h4; subst h4; exact h3)
theorem desc_str {t : TypeId} (F : Fits P E) (hd : E.d t = some .str) : P.underlying t = some .string := by
  obtain ⟨ti, _, h2, H⟩ := d_of F hd
  obtain ⟨d, h3, h4⟩ := H.desc
  rw [h2] at h4
  cases d <;> first | exact h4.elim | exact h3
theorem desc_bool {t : TypeId} (F : Fits P E) (hd : E.d t = some .bool) : P.underlying t = some .bool := by
  obtain ⟨ti, _, h2, H⟩ := d_of F hd
  obtain ⟨d, h3, h4⟩ := H.desc
  rw [h2] at h4
  cases d <;> first | exact h4.elim | exact h3
theorem desc_uptr {t : TypeId} (F : Fits P E) (hd : E.d t = some .uptr) : P.underlying t = some .unsafePointer := by
  obtain ⟨ti, _, h2, H⟩ := d_of F hd
  obtain ⟨d, h3, h4⟩ := H.desc
  rw [h2] at h4
  cases d <;> first | exact h4.elim | exact h3
theorem desc_func {t : TypeId} (F : Fits P E) (hd : E.d t = some .func) : ∃ a b c, P.underlying t = some (.func a b c) := by
  obtain ⟨ti, _, h2, H⟩ := d_of F hd
  obtain ⟨d, h3, h4⟩ := H.desc
  rw [h2] at h4
  cases d <;> first | exact h4.elim | exact ⟨_, _, _, h3⟩
theorem desc_iface {t : TypeId} {b : Bool} (F : Fits P E) (hd : E.d t = some (.iface b)) : ∃ ms, P.underlying t = some (.interface ms) := by
  obtain ⟨ti, _, h2, H⟩ := d_of F hd
  obtain ⟨d, h3, h4⟩ := H.desc
  rw [h2] at h4
  cases d <;> first | exact h4.elim | exact ⟨_, h3⟩
theorem desc_struct {t : TypeId} {fs : List (Nat × Nat × TypeId)} (F : Fits P E) (hd : E.d t = some (.struct fs)) : ∃ gs, P.underlying t = some (.struct gs) ∧
    ∀ (i : Nat) (x : Nat × Nat × TypeId), fs[i]? = some x → ∃ g, gs[i]? = some g ∧ x.1 = g.offset ∧ x.2.2 = g.type ∧ ∃ gi, P.info? g.type = some gi ∧ gi.size = x.2.1 := by
  obtain ⟨ti, _, h2, H⟩ := d_of F hd
  obtain ⟨d, h3, h4⟩ := H.desc
  rw [h2] at h4
  cases d <;> first | exact h4.elim | skip
  rename_i gs
  obtain ⟨hl, h5⟩ := h4
  refine ⟨gs, h3, fun i x hx => ?_⟩
  have hi : i < gs.size := by
    rw [← hl]; rw [List.getElem?_eq_some_iff] at hx; exact hx.1
  exact ⟨gs[i], by simp [hi], h5 i x gs[i] hx (by simp [hi])⟩
theorem desc_struct_all {t : TypeId} {fs : List (Nat × Nat × TypeId)} (F : Fits P E) (hd : E.d t = some (.struct fs)) {gs : Array Field} (hu : P.underlying t = some (.struct gs)) (k : Nat) (hk : k < gs.size) :
    ∃ i, P.info? gs[k].type = some i := by
  obtain ⟨ti, _, h2, H⟩ := d_of F hd
  obtain ⟨d, h3, h4⟩ := H.desc
  rw [h2] at h4
  rw [hu] at h3; cases h3
  obtain ⟨hl, h5⟩ := h4
  have hk' : k < fs.length := by omega
  obtain ⟨_, _, gi, h6, _⟩ := h5 k fs[k] gs[k] (by simp [hk']) (by simp [hk])
  exact ⟨gi, h6⟩
theorem ptr_inv {i o : Nat} {v : Value} (hv : RV ι (.ptr i o) v) : ∃ p, ι i = some p ∧ v = .pointer (some ⟨p.1, o, none⟩) := by unfold RV at hv; exact hv
theorem int_inv {k : IntKind} {x : Int} {v : Value} (hv : RV ι (.int k x) v) : v = .int k x := by unfold RV at hv; exact hv
theorem str_inv {s : List UInt8} {v : Value} (hv : RV ι (.str s) v) : v = .string ⟨s.toArray⟩ := by unfold RV at hv; exact hv
theorem bool_inv {b : Bool} {v : Value} (hv : RV ι (.bool b) v) : v = .bool b := by unfold RV at hv; exact hv
theorem agg_inv {l : List AV} {v : Value} (hv : RV ι (.agg l) v) : ∃ cs, v = .agg cs ∧ RVs ι l cs.toList := by unfold RV at hv; exact hv
theorem tup_inv {l : List AV} {v : Value} (hv : RV ι (.tup l) v) : ∃ cs, v = .tuple cs ∧ RVs ι l cs.toList := by unfold RV at hv; exact hv
theorem sl_inv {i o l : Nat} {c : Option Nat} {v : Value} (hv : RV ι (.sl i o l c) v) : ∃ p, ι i = some p ∧ ∃ cap, v = .slice (some ⟨p.1, o, none⟩) l cap ∧ l ≤ cap ∧ (∀ k, c = some k → cap = k) ∧ (c = none → o = 0 → cap ≤ p.2) := by unfold RV at hv; exact hv
theorem iface_inv {t : TypeId} {a : AV} {v : Value} (hv : RV ι (.iface t a) v) : ∃ x, v = .iface t x ∧ RV ι a x := by unfold RV at hv; exact hv
theorem map_inv {i : Nat} {v : Value} (hv : RV ι (.map i) v) : ∃ p, ι i = some p ∧ v = .map (some p.1) := by unfold RV at hv; exact hv
theorem fn_inv {f : FuncId} {a b : List AV} {v : Value} (hv : RV ι (.fn f a b) v) : ∃ as bs, v = .func (.func f) as bs ∧ RVs ι a as.toList ∧ RVs ι b bs.toList := by unfold RV at hv; exact hv
theorem RV_bool {b : Bool} : RV ι (.bool b) (.bool b) := by unfold RV; rfl
theorem RV_int {k : IntKind} {x : Int} : RV ι (.int k x) (.int k x) := by unfold RV; rfl
theorem RV_str {s : List UInt8} : RV ι (.str s) (.string ⟨s.toArray⟩) := by unfold RV; rfl
theorem RV_ptr {i o : Nat} {p : Nat × Nat} (hi : ι i = some p) : RV ι (.ptr i o) (.pointer (some ⟨p.1, o, none⟩)) := by unfold RV; exact ⟨p, hi, rfl⟩
theorem RV_agg {l : List AV} {cs : Array Value} (hl : RVs ι l cs.toList) : RV ι (.agg l) (.agg cs) := by unfold RV; exact ⟨cs, rfl, hl⟩
theorem RV_tup {l : List AV} {cs : Array Value} (hl : RVs ι l cs.toList) : RV ι (.tup l) (.tuple cs) := by unfold RV; exact ⟨cs, rfl, hl⟩
theorem unA_ok {op : UnOp} {x a : AV} {v : Value} (e : unA op x = some a) (hv : RV ι x v) : QOk P K ι w (Op.unary op v) a := by
  unfold unA at e
  split at e
  · obtain rfl := bool_inv hv; cases e; exact QOk.pure RV_bool
  · rename_i k x; obtain rfl := int_inv hv; cases e
    show QOk P K ι w (Op.intArith .sub k 0 x) _
    exact QOk.pure RV_int
  · rename_i k x; obtain rfl := int_inv hv; cases e
    show QOk P K ι w (Op.intBits .xor k (if k.signed then -1 else k.max) x) _
    have : (if k.signed = true then (-1 : Int) else k.max) = cond k.signed (-1) k.max := by cases k.signed <;> rfl
    rw [this]
    exact QOk.pure RV_int
  · cases e
theorem extractA_ok {x a : AV} {i : Nat} {v : Value} (e : extractA x i = some a) (hv : RV ι x v) : QOk P K ι w (Instr.extract v i) a := by
  unfold extractA at e
  split at e
  · obtain ⟨cs, rfl, hl⟩ := tup_inv hv
    obtain ⟨u, h1, h2⟩ := hl.get e
    unfold Instr.extract
    simp only [← Array.getElem?_toList, h1]
    exact QOk.pure h2
  · cases e
theorem fieldAddrA_ok (F : Fits P E) {s : TypeId} {x a : AV} {i : Nat} {v : Value} (e : fieldAddrA E s x i = some a) (hv : RV ι x v) : QOk P K ι w (Instr.fieldAt s v i) a := by
  unfold fieldAddrA at e
  split at e
  · rename_i fs id off hd
    obtain ⟨gs, hu, hg⟩ := desc_struct F hd
    obtain ⟨p, hi, rfl⟩ := ptr_inv hv
    split at e
    · rename_i o size ty hf
      obtain ⟨g, hg1, h1, _, gi, h3, h4⟩ := hg i _ hf
      simp only at h1 h4
      cases hz : Nat.beq size 0 with
      | true => rw [hz] at e; cases e
      | false =>
        rw [hz] at e; simp only [cond_false, Option.some.injEq] at e; subst e
        have hne : ¬ gi.size = 0 := by rw [h4]; exact Nat.ne_of_beq_eq_false hz
        unfold Instr.fieldAt
        refine QOk.bind0 (SRun.underlying hu) ?_
        simp only [hg1]
        refine QOk.bind0 (x := ⟨p.1, off, none⟩) (by unfold Instr.sureAddr; exact SRun.pure _) ?_
        refine QOk.bind0 (x := ⟨p.1, off + o, none⟩) ?_ (QOk.pure (RV_ptr hi))
        unfold fieldPlace
        have := SRun.bind (e1 := []) (e2 := []) (SRun.sizeOf (w := w) h3) (f := fun k => if k = 0 then partAt ⟨p.1, off, none⟩ g.offset g.byteOffset else Pure.pure ((⟨p.1, off, none⟩ : Addr).add g.offset)) (b := ⟨p.1, off + o, none⟩) (w2 := w) (by
          rw [if_neg hne, add_none, ← h1]; exact SRun.pure _)
        simpa using this
    · cases e
  · cases e
theorem SRun_part (F : Fits P E) {u : TypeId} {l : List AV} {o : Nat} {a : AV} {cs : Array Value} (e : partA E u l o = some a) (hl : RVs ι l cs.toList) : ∃ v, SRun P (part u cs o) w v w [] ∧ RV ι a v := by
  unfold partA at e
  cases ht : E.tt.get u with
  | none => rw [ht] at e; cases e
  | some ti =>
    rw [ht] at e
    have H := F.tt u ti ht
    unfold part
    cases hag : ti.isAgg with
    | true =>
      simp only [hag, cond_true] at e
      cases hk : takeN l o ti.size with
      | none => rw [hk] at e; cases e
      | some r =>
        rw [hk] at e; simp at e; subst e
        obtain ⟨hr, hn⟩ := takeN_some hk
        refine ⟨.agg (cs.extract o (o + ti.size)), ?_, RV_agg ?_⟩
        · refine SRun.bind0 (SRun_isAgg H) ?_
          rw [hag, if_pos rfl]
          exact SRun.bind0 (SRun_sizeOf H) (SRun.pure _)
        · rw [hr]
          have : (cs.extract o (o + ti.size)).toList = (cs.toList.drop o).take ti.size := by
            rw [Array.toList_extract, List.extract_eq_take_drop]; simp
          rw [this]
          exact (hl.drop o).take _
    | false =>
      simp only [hag, cond_false] at e
      obtain ⟨v, h1, h2⟩ := hl.get e
      refine ⟨v, ?_, h2⟩
      refine SRun.bind0 (SRun_isAgg H) ?_
      rw [hag, if_neg (by decide)]
      simp only [← Array.getElem?_toList, h1]
      exact SRun.pure v
theorem fieldA_ok (F : Fits P E) {t : TypeId} {x a : AV} {i : Nat} {v : Value} (e : fieldA E t x i = some a) (hv : RV ι x v) : QOk P K ι w (Instr.field t v i) a := by
  unfold fieldA at e
  split at e
  · rename_i fs l hd
    obtain ⟨gs, hu, hg⟩ := desc_struct F hd
    obtain ⟨cs, rfl, hl⟩ := agg_inv hv
    split at e
    · rename_i o size ty hf
      obtain ⟨g, hg1, h1, h2, _⟩ := hg i _ hf
      simp only at h1 h2
      subst h1; subst h2
      unfold Instr.field
      refine QOk.bind0 (SRun.underlying hu) ?_
      simp only [hg1]
      refine QOk.bind0 (x := cs) (by unfold asAgg; exact SRun.pure _) ?_
      obtain ⟨u, h3, h4⟩ := SRun_part (w := w) F e hl
      exact ⟨u, [], h3, h4, by simp⟩
    · cases e
  · cases e
end
end Go.Ev
namespace Go.Ev
section
variable {P : Program} {K : Ctx} {ι : Nm} {h : AH} {w : World} {E : Env}
theorem cond_some {α : Type} {b : Bool} {x : α} {y : α} (e : cond b (some x) none = some y) : b = true ∧ x = y := by
  cases b with
  | true => exact ⟨rfl, Option.some.inj e⟩
  | false => cases e
theorem condO_some {α : Type} {b : Bool} {x : Option α} {y : α} (e : cond b x none = some y) : b = true ∧ x = some y := by
  cases b with
  | true => exact ⟨rfl, e⟩
  | false => cases e
theorem cond_none_some {α : Type} {b : Bool} {x : Option α} {y : α} (e : cond b none x = some y) : b = false ∧ x = some y := by
  cases b with
  | true => cases e
  | false => exact ⟨rfl, e⟩
theorem tt_of (F : Fits P E) {t : TypeId} {ti : TI} (e : E.tt.get t = some ti) : TIok P t ti := F.tt t ti e
theorem indexAddrA_ok (F : Fits P E) {t : TypeId} {x i a : AV} {v u : Value} (e : indexAddrA E t x i = some a) (hv : RV ι x v) (hu : RV ι i u) : QOk P K ι w (Instr.indexAt t v u) a := by
  unfold indexAddrA at e
  split at e
  · rename_i el id off len _ k n hd
    split at e
    · rename_i ei he
      obtain ⟨hb, rfl⟩ := cond_some e
      have hb := of_decide_eq_true hb
      have H := tt_of F he
      have ht := desc_slice F hd
      obtain ⟨p, hp, cap, rfl, _⟩ := sl_inv hv
      obtain rfl := int_inv hu
      unfold Instr.indexAt
      refine QOk.bind0 (x := (k, n)) (SRun.pure _) ?_
      refine QOk.bind0 (SRun.underlying ht) ?_
      refine QOk.bind0 (x := (some ⟨p.1, off, none⟩, len, el)) (SRun.pure _) ?_
      refine QOk.bind0 (SRun.underlying ht) ?_
      simp only [if_pos hb]
      refine QOk.bind0 (SRun_sizeOf H) ?_
      rw [add_none]
      exact QOk.pure (RV_ptr hp)
    · cases e
  · rename_i len el id off k n hd
    split at e
    · rename_i ei he
      obtain ⟨hb, rfl⟩ := cond_some e
      have hb := of_decide_eq_true hb
      have H := tt_of F he
      have ht := desc_array F hd
      obtain ⟨p, hp, rfl⟩ := ptr_inv hv
      obtain rfl := int_inv hu
      unfold Instr.indexAt
      refine QOk.bind0 (x := (k, n)) (SRun.pure _) ?_
      refine QOk.bind0 (SRun.underlying ht) ?_
      refine QOk.bind0 (x := (some ⟨p.1, off, none⟩, len, el)) (SRun.pure _) ?_
      refine QOk.bind0 (SRun.underlying ht) ?_
      simp only [if_pos hb]
      refine QOk.bind0 (SRun_sizeOf H) ?_
      rw [add_none]
      exact QOk.pure (RV_ptr hp)
    · cases e
  · cases e
theorem toList_mk (l : List UInt8) : (⟨l.toArray⟩ : ByteArray).toList = l := by
  rw [ByteArray.toList_eq]
theorem size_mk (l : List UInt8) : (⟨l.toArray⟩ : ByteArray).size = l.length := by
  show l.toArray.size = _; simp
theorem get_mk (l : List UInt8) (i : Nat) : (⟨l.toArray⟩ : ByteArray)[i]? = l[i]? := by
  by_cases hi : i < l.length
  · have h1 : i < (⟨l.toArray⟩ : ByteArray).size := by rw [size_mk]; exact hi
    rw [getElem?_pos (⟨l.toArray⟩ : ByteArray) i h1, List.getElem?_eq_getElem hi]; rfl
  · have h1 : ¬ i < (⟨l.toArray⟩ : ByteArray).size := by rw [size_mk]; exact hi
    rw [getElem?_neg (⟨l.toArray⟩ : ByteArray) i h1, List.getElem?_eq_none (by omega)]
theorem indexA_ok (F : Fits P E) {t : TypeId} {x i a : AV} {v u : Value} (e : indexA E t x i = some a) (hv : RV ι x v) (hu : RV ι i u) : QOk P K ι w (Instr.index t v u) a := by
  unfold indexA at e
  split at e
  · rename_i s k n hd
    obtain ⟨hb, e⟩ := condO_some e
    have hb := of_decide_eq_true hb
    obtain rfl := str_inv hv
    obtain rfl := int_inv hu
    cases hs : s[n.toNat]? with
    | none => rw [hs] at e; cases e
    | some b =>
      rw [hs] at e; simp only [Option.map_some, Option.some.injEq] at e; subst e
      unfold Instr.index
      refine QOk.bind0 (x := (k, n)) (SRun.pure _) ?_
      refine QOk.bind0 (SRun.underlying (desc_str F hd)) ?_
      simp only [if_pos hb, get_mk, hs]
      exact QOk.pure RV_int
  · rename_i len el l k n hd
    split at e
    · rename_i ei he
      obtain ⟨hb, e⟩ := condO_some e
      have hb := of_decide_eq_true hb
      obtain ⟨cs, rfl, hl⟩ := agg_inv hv
      obtain rfl := int_inv hu
      obtain ⟨r, h3, h4⟩ := SRun_part (w := w) F e hl
      unfold Instr.index
      refine QOk.bind0 (x := (k, n)) (SRun.pure _) ?_
      refine QOk.bind0 (SRun.underlying (desc_array F hd)) ?_
      simp only [if_pos hb]
      exact QOk.bind0 (SRun_sizeOf (tt_of F he)) ⟨r, [], h3, h4, by simp⟩
    · cases e
  · cases e
theorem makeIfaceA_ok (F : Fits P E) {t : TypeId} {x a : AV} {v : Value} (e : makeIfaceA E t x = some a) (hv : RV ι x v) : QOk P K ι w (Instr.makeInterface t v) a := by
  unfold makeIfaceA at e
  split at e
  · cases e
  · cases e
  · rename_i d hni hd
    cases e
    obtain ⟨ti, _, h2, H⟩ := d_of F hd
    obtain ⟨d', h3, h4⟩ := H.desc
    rw [h2] at h4
    unfold Instr.makeInterface
    refine QOk.bind0 (SRun.underlying h3) ?_
    have hr : RV ι (.iface t x) (.iface t v) := by unfold RV; exact ⟨v, rfl, hv⟩
    cases d' <;> first
      | exact QOk.pure hr
      | skip
    rename_i ms
    cases d <;> first
      | exact h4.elim
      | exact (hni _ rfl).elim
theorem assertA_ok (F : Fits P E) {t s : TypeId} {x a : AV} {v : Value} {ok : Bool} (e : assertA E t x ok = some a) (hv : RV ι x v) : QOk P K ι w (Instr.typeAssert v s t ok) a := by
  unfold assertA at e
  split at e
  · rename_i ti u v' ht
    have H := tt_of F ht
    obtain ⟨x', rfl, hx⟩ := iface_inv hv
    obtain ⟨d', h3, h4⟩ := H.desc
    unfold Instr.typeAssert
    refine QOk.bind0 (SRun.underlying h3) ?_
    split at e
    · cases e
    · rename_i hni
      have key : ∀ d', (∀ ms, d' ≠ TypeDesc.interface ms) → QOk P K ι w (if u = t then (Pure.pure (if ok = true then Value.tuple #[x', .bool true] else x') : Sem Value) else
          (if ok = true then (do Pure.pure (Value.tuple #[← zeroValue t, .bool false])) else runtimePanic (.typeAssertion (some s) (some u) t ""))) a := by
        intro d' _
        cases hb : Nat.beq u t with
        | true =>
          rw [hb, cond_true] at e
          rw [if_pos (Nat.eq_of_beq_eq_true hb)]
          cases ok with
          | true => cases e; exact QOk.pure (RV_tup (RVs_cons hx (RVs_cons RV_bool RVs_nil)))
          | false => cases e; exact QOk.pure hx
        | false =>
          rw [hb, cond_false] at e
          rw [if_neg (fun h => by rw [h] at hb; simp at hb)]
          cases ok with
          | false => cases e
          | true =>
            cases e
            obtain ⟨i, z, hi, _, _, hz, hzv, _⟩ := H.info
            exact QOk.bind0 (SRun.zeroValue hi hz) (QOk.pure (RV_tup (RVs_cons (hzv ι) (RVs_cons RV_bool RVs_nil))))
      cases hd : ti.d <;> rw [hd] at h4 <;> cases d' <;> first
        | exact h4.elim
        | exact (hni _ hd).elim
        | (simp only; exact key .bool (by simp))
  · cases e
end
end Go.Ev
namespace Go.Ev
section
variable {P : Program} {K : Ctx} {ι : Nm} {h : AH} {w : World} {E : Env}
theorem asInt_some {x : AV} {k : IntKind} {n : Int} (e : asInt x = some (k, n)) : x = .int k n := by
  unfold asInt at e; split at e
  · cases e; rfl
  · cases e
theorem asStr_some {x : AV} {s : List UInt8} (e : asStr x = some s) : x = .str s := by
  unfold asStr at e; split at e
  · cases e; rfl
  · cases e
theorem ikEq_true {k k' : IntKind} (e : ikEq k k' = true) : k = k' := by
  revert e; cases k <;> cases k' <;> decide
theorem SRun_eqGuard_other {op : BinOp} (ho : op ≠ .eql ∧ op ≠ .neq) {t : TypeId} {o1 o2 : Operand} {v u : Value} : SRun P (eqGuard op t o1 o2 v u) w () w [] := by
  unfold eqGuard
  cases op <;> first | exact absurd rfl ho.1 | exact absurd rfl ho.2 | exact SRun.pure _
theorem SRun_eqGuard_int {op : BinOp} {t : TypeId} {o1 o2 : Operand} {k k' : IntKind} {a b : Int} : SRun P (eqGuard op t o1 o2 (.int k a) (.int k' b)) w () w [] := by
  unfold eqGuard
  cases op <;> exact SRun.pure _
theorem SRun_eqGuard_str {op : BinOp} {t : TypeId} {o1 o2 : Operand} {a b : ByteArray} : SRun P (eqGuard op t o1 o2 (.string a) (.string b)) w () w [] := by
  unfold eqGuard
  cases op <;> exact SRun.pure _
theorem intOp_ok {op : BinOp} {t : TypeId} {k : IntKind} {x y : Int} {a : AV} (hs : op ≠ .shl ∧ op ≠ .shr) (e : intOp op k x y = some a) : QOk P K ι w (binOp op t (.int k x) (.int k y)) a := by
  cases op <;> first
    | exact absurd rfl hs.1
    | exact absurd rfl hs.2
    | (simp only [intOp, Option.some.injEq] at e
       subst e
       simp only [binOp, ne_eq, not_true_eq_false, if_false]
       first
         | exact QOk.pure RV_int
         | exact QOk.pure RV_bool)
    | (simp only [intOp] at e
       obtain ⟨hb, e⟩ := cond_none_some e
       cases e
       have hb : ¬ y = 0 := by simpa using hb
       simp only [binOp, ne_eq, not_true_eq_false, if_false, Op.intDiv, if_neg hb]
       exact QOk.pure RV_int)
theorem intBin_ok {op : BinOp} {t : TypeId} {k k' : IntKind} {x y : Int} {a : AV} (e : intBin op k x k' y = some a) : QOk P K ι w (binOp op t (.int k x) (.int k' y)) a := by
  by_cases h1 : op = .shl
  · subst h1
    simp only [intBin] at e
    obtain ⟨hb, e⟩ := cond_none_some e
    cases e
    have hb : ¬ y < 0 := by simpa using hb
    simp only [binOp, Op.shift, if_neg hb]
    exact QOk.pure RV_int
  · by_cases h2 : op = .shr
    · subst h2
      simp only [intBin] at e
      obtain ⟨hb, e⟩ := cond_none_some e
      cases e
      have hb : ¬ y < 0 := by simpa using hb
      simp only [binOp, Op.shift, if_neg hb]
      exact QOk.pure RV_int
    · have e' : cond (ikEq k k') (intOp op k x y) none = some a := by
        cases op <;> first | exact absurd rfl h1 | exact absurd rfl h2 | exact e
      obtain ⟨hk, e2⟩ := condO_some e'
      obtain rfl := ikEq_true hk
      exact intOp_ok ⟨h1, h2⟩ e2
theorem strBin_ok {op : BinOp} {t : TypeId} {x y : List UInt8} {a : AV} (e : strBin op x y = some a) : QOk P K ι w (binOp op t (.string ⟨x.toArray⟩) (.string ⟨y.toArray⟩)) a := by
  have hl : ∀ z : List UInt8, (⟨z.toArray⟩ : ByteArray).toList = z := toList_mk
  cases op <;> simp only [strBin] at e <;> first
    | (cases e; done)
    | (simp only [Option.some.injEq] at e
       subst e
       simp only [binOp, Op.stringOp, hl]
       exact QOk.pure RV_bool)
    | (obtain ⟨hb, rfl⟩ := cond_some e
       have hb := of_decide_eq_true hb
       have : ¬ (((⟨x.toArray⟩ : ByteArray).size + (⟨y.toArray⟩ : ByteArray).size : Nat) : Int) > IntKind.i64.max := by
         rw [size_mk, size_mk]
         have hm : IntKind.i64.max = 9223372036854775807 := by decide
         rw [hm]; omega
       simp only [binOp, Op.stringOp, if_neg this]
       have h2 : (⟨x.toArray⟩ : ByteArray) ++ ⟨y.toArray⟩ = ⟨(x ++ y).toArray⟩ := by
         apply ByteArray.ext
         simp
       rw [h2]
       exact QOk.pure RV_str)
theorem SRun_sameAddr_same (b o o' : Nat) : SRun P (sameAddr ⟨b, o, none⟩ ⟨b, o', none⟩) w (Nat.beq o o') w [] := by
  unfold sameAddr
  have : ((⟨b, o, none⟩ : Addr) == ⟨b, o', none⟩) = Nat.beq o o' := by
    by_cases h : o = o'
    · subst h; simp
    · have h1 : Nat.beq o o' = false := by cases hc : Nat.beq o o' with | false => rfl | true => exact absurd (Nat.eq_of_beq_eq_true hc) h
      rw [h1]; simp [h]
  simp only [beq_self_eq_true, if_true]
  rw [this]
  exact SRun.pure _
def plainV : Value → Bool
  | .int _ _ | .float _ _ | .complex _ _ _ | .string _ => false
  | _ => true
theorem binOp_eql {t : TypeId} {v u : Value} (hp : plainV v = true) : binOp .eql t v u = (do pure (.bool (← Op.equal t v u))) := by
  cases v <;> first
    | exact absurd hp Bool.false_ne_true
    | (cases u <;> rfl)
theorem binOp_neq {t : TypeId} {v u : Value} (hp : plainV v = true) : binOp .neq t v u = (do pure (.bool (!(← Op.equal t v u)))) := by
  cases v <;> first
    | exact absurd hp Bool.false_ne_true
    | (cases u <;> rfl)
theorem eqlOp_ok (F : Fits P E) {op : BinOp} (ho : op = .eql ∨ op = .neq) {t : TypeId} {x y : AV} {v u : Value} {b : Bool} (e : eqlOp E t x y = some b) (hv : RV ι x v) (hu : RV ι y u) (o1 o2 : Operand) :
    SRun P (eqGuard op t o1 o2 v u) w () w [] ∧ SRun P (Op.equal t v u) w b w [] ∧ plainV v = true := by
  have hg : ∀ v u : Value, (v ≠ .nilIface ∨ u ≠ .nilIface) → ((∀ c, v ≠ .agg c) ∨ (∀ c, u ≠ .agg c)) → SRun P (eqGuard op t o1 o2 v u) w () w [] := by
    intro v u h1 h2
    unfold eqGuard
    rcases ho with rfl | rfl <;> cases v <;> cases u <;> first
      | exact SRun.pure _
      | (exfalso; rcases h1 with h | h <;> exact h rfl)
      | (exfalso; rcases h2 with h | h <;> exact h _ rfl)
  have he : ∀ d, P.underlying t = some d → ∀ r : Bool, SRun P (Op.equalIn 10000 t v u) w r w [] → SRun P (Op.equal t v u) w r w [] := fun _ _ _ h => h
  unfold eqlOp at e
  split at e
  ·
    rename_i hd
    split at e
    · obtain rfl := bool_inv hv; obtain rfl := bool_inv hu; cases e
      refine ⟨hg _ _ (by simp) (by simp), ?_, rfl⟩
      unfold Op.equal Op.maxDepth Op.equalIn
      exact SRun.bind0 (SRun.underlying (desc_bool F hd)) (SRun.pure _)
    · cases e
  ·
    rename_i el hd
    have ht := desc_ptr F hd
    split at e
    · unfold RV at hv hu; subst hv; subst hu; cases e
      refine ⟨hg _ _ (by simp) (by simp), ?_, rfl⟩
      unfold Op.equal Op.maxDepth Op.equalIn
      exact SRun.bind0 (SRun.underlying ht) (SRun.pure _)
    · unfold RV at hv; subst hv; obtain ⟨p, _, rfl⟩ := ptr_inv hu; cases e
      refine ⟨hg _ _ (by simp) (by simp), ?_, rfl⟩
      unfold Op.equal Op.maxDepth Op.equalIn
      exact SRun.bind0 (SRun.underlying ht) (SRun.pure _)
    · unfold RV at hu; subst hu; obtain ⟨p, _, rfl⟩ := ptr_inv hv; cases e
      refine ⟨hg _ _ (by simp) (by simp), ?_, rfl⟩
      unfold Op.equal Op.maxDepth Op.equalIn
      exact SRun.bind0 (SRun.underlying ht) (SRun.pure _)
    · rename_i i a' j b'
      obtain ⟨p, hp, rfl⟩ := ptr_inv hv
      obtain ⟨q, hq, rfl⟩ := ptr_inv hu
      obtain ⟨hb, rfl⟩ := cond_some e
      rw [Bool.and_eq_true] at hb
      obtain ⟨h1, h2⟩ := hb
      obtain rfl := Nat.eq_of_beq_eq_true h1
      obtain rfl : p = q := by rw [hp] at hq; exact Option.some.inj hq
      split at h2
      · rename_i ti hti
        have hne : ¬ ti.size = 0 := fun h0 => by rw [h0] at h2; simp at h2
        refine ⟨hg _ _ (by simp) (by simp), ?_, rfl⟩
        unfold Op.equal Op.maxDepth Op.equalIn
        refine SRun.bind0 (SRun.underlying ht) ?_
        refine SRun.bind0 (SRun_sizeOf (tt_of F hti)) ?_
        rw [if_pos hne]
        exact SRun_sameAddr_same _ _ _
      · cases h2
    · cases e
  ·
    rename_i el hd
    have ht := desc_slice F hd
    split at e
    · unfold RV at hv hu; subst hv; subst hu; cases e
      refine ⟨hg _ _ (by simp) (by simp), ?_, rfl⟩
      unfold Op.equal Op.maxDepth Op.equalIn
      exact SRun.bind0 (SRun.underlying ht) (SRun.pure _)
    · unfold RV at hv; subst hv; obtain ⟨p, _, c, rfl, _⟩ := sl_inv hu; cases e
      refine ⟨hg _ _ (by simp) (by simp), ?_, rfl⟩
      unfold Op.equal Op.maxDepth Op.equalIn
      exact SRun.bind0 (SRun.underlying ht) (SRun.pure _)
    · unfold RV at hu; subst hu; obtain ⟨p, _, c, rfl, _⟩ := sl_inv hv; cases e
      refine ⟨hg _ _ (by simp) (by simp), ?_, rfl⟩
      unfold Op.equal Op.maxDepth Op.equalIn
      exact SRun.bind0 (SRun.underlying ht) (SRun.pure _)
    · cases e
  ·
    rename_i kt el hd
    have ht := (desc_map F hd).1
    split at e
    · unfold RV at hv hu; subst hv; subst hu; cases e
      refine ⟨hg _ _ (by simp) (by simp), ?_, rfl⟩
      unfold Op.equal Op.maxDepth Op.equalIn
      exact SRun.bind0 (SRun.underlying ht) (SRun.pure _)
    · unfold RV at hv; subst hv; obtain ⟨p, _, rfl⟩ := map_inv hu; cases e
      refine ⟨hg _ _ (by simp) (by simp), ?_, rfl⟩
      unfold Op.equal Op.maxDepth Op.equalIn
      exact SRun.bind0 (SRun.underlying ht) (SRun.pure _)
    · unfold RV at hu; subst hu; obtain ⟨p, _, rfl⟩ := map_inv hv; cases e
      refine ⟨hg _ _ (by simp) (by simp), ?_, rfl⟩
      unfold Op.equal Op.maxDepth Op.equalIn
      exact SRun.bind0 (SRun.underlying ht) (SRun.pure _)
    · cases e
  ·
    rename_i hd
    obtain ⟨d1, d2, d3, ht⟩ := desc_func F hd
    split at e
    · unfold RV at hv hu; subst hv; subst hu; cases e
      refine ⟨hg _ _ (by simp) (by simp), ?_, rfl⟩
      unfold Op.equal Op.maxDepth Op.equalIn
      exact SRun.bind0 (SRun.underlying ht) (SRun.pure _)
    · unfold RV at hv; subst hv; obtain ⟨as, bs, rfl, _⟩ := fn_inv hu; cases e
      refine ⟨hg _ _ (by simp) (by simp), ?_, rfl⟩
      unfold Op.equal Op.maxDepth Op.equalIn
      exact SRun.bind0 (SRun.underlying ht) (SRun.pure _)
    · unfold RV at hu; subst hu; obtain ⟨as, bs, rfl, _⟩ := fn_inv hv; cases e
      refine ⟨hg _ _ (by simp) (by simp), ?_, rfl⟩
      unfold Op.equal Op.maxDepth Op.equalIn
      exact SRun.bind0 (SRun.underlying ht) (SRun.pure _)
    · cases e
  ·
    rename_i em hd
    obtain ⟨ms, ht⟩ := desc_iface F hd
    split at e
    · unfold RV at hv; subst hv; obtain ⟨x', rfl, _⟩ := iface_inv hu; cases e
      refine ⟨hg _ _ (by simp) (by simp), ?_, rfl⟩
      unfold Op.equal Op.maxDepth Op.equalIn
      exact SRun.bind0 (SRun.underlying ht) (SRun.pure _)
    · unfold RV at hu; subst hu; obtain ⟨x', rfl, _⟩ := iface_inv hv; cases e
      refine ⟨hg _ _ (by simp) (by simp), ?_, rfl⟩
      unfold Op.equal Op.maxDepth Op.equalIn
      exact SRun.bind0 (SRun.underlying ht) (SRun.pure _)
    · cases e
  ·
    rename_i fs hd
    split at e
    · rename_i l m
      obtain ⟨hb, e⟩ := condO_some e
      obtain ⟨cs, rfl, hl⟩ := agg_inv hv
      obtain ⟨ds, rfl, hm⟩ := agg_inv hu
      obtain ⟨gs, _, hf0⟩ := F.flatOk hb
      have hf := (hf0 cs ι w hl).2 ds m b hm e o1 o2 op ho
      exact ⟨hf.1, hf.2, rfl⟩
    · cases e
  ·
    rename_i n el hd
    split at e
    · rename_i l m
      obtain ⟨hb, e⟩ := condO_some e
      obtain ⟨cs, rfl, hl⟩ := agg_inv hv
      obtain ⟨ds, rfl, hm⟩ := agg_inv hu
      obtain ⟨gs, _, hf0⟩ := F.flatOk hb
      have hf := (hf0 cs ι w hl).2 ds m b hm e o1 o2 op ho
      exact ⟨hf.1, hf.2, rfl⟩
    · cases e
  · cases e
theorem binA_ok (F : Fits P E) {op : BinOp} {t : TypeId} {x y a : AV} {v u : Value} (e : binA E op t x y = some a) (hv : RV ι x v) (hu : RV ι y u) (o1 o2 : Operand) :
    QOk P K ι w (do eqGuard op t o1 o2 v u; binOp op t v u) a := by
  unfold binA at e
  cases hx : asInt x with
  | some p =>
    obtain ⟨k, n⟩ := p
    simp only [hx] at e
    cases hy : asInt y with
    | none => rw [hy] at e; cases e
    | some q =>
      obtain ⟨k', m⟩ := q
      simp only [hy] at e
      obtain rfl := asInt_some hx
      obtain rfl := asInt_some hy
      obtain rfl := int_inv hv
      obtain rfl := int_inv hu
      exact QOk.bind0 SRun_eqGuard_int (intBin_ok e)
  | none =>
    simp only [hx] at e
    cases hx' : asStr x with
    | some s =>
      simp only [hx'] at e
      cases hy : asStr y with
      | none => rw [hy] at e; cases e
      | some s' =>
        simp only [hy] at e
        obtain rfl := asStr_some hx'
        obtain rfl := asStr_some hy
        obtain rfl := str_inv hv
        obtain rfl := str_inv hu
        exact QOk.bind0 SRun_eqGuard_str (strBin_ok e)
    | none =>
      simp only [hx'] at e
      unfold eqBin at e
      split at e
      · cases hq : eqlOp E t x y with
        | none => rw [hq] at e; cases e
        | some b =>
          rw [hq] at e; cases e
          obtain ⟨h1, h2, h3⟩ := eqlOp_ok (w := w) F (.inl rfl) hq hv hu o1 o2
          refine QOk.bind0 h1 ?_
          rw [binOp_eql h3]
          exact QOk.bind0 h2 (QOk.pure RV_bool)
      · cases hq : eqlOp E t x y with
        | none => rw [hq] at e; cases e
        | some b =>
          rw [hq] at e; cases e
          obtain ⟨h1, h2, h3⟩ := eqlOp_ok (w := w) F (.inr rfl) hq hv hu o1 o2
          refine QOk.bind0 h1 ?_
          rw [binOp_neq h3]
          exact QOk.bind0 h2 (QOk.pure RV_bool)
      · cases e
end
end Go.Ev
