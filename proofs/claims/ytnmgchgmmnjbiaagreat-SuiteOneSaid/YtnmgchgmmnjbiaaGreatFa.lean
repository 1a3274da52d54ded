/- An interpreter of the model's code over plain data, and how its state lies in memory. -/
import GoSem.Step
import Derived.Below
import Derived.Laws.AppendOwn
import Derived.Laws.OwnMore
import Derived.Laws.MakeOwn
import Derived.Lib.AppendStr
import Derived.Orders
import Derived.Deep.AppendSrc
set_option autoImplicit false
namespace Go.Proofs.Fw
open Go

/-! ### 1. Data of the program, as plain Lean -/
abbrev Bytes := List UInt8
structure Dest where
  addr : Bytes
  seq : Int
deriving DecidableEq, Inhabited
structure SubT where
  type : Int
  data : Bytes
deriving DecidableEq, Inhabited
structure Msg where
  kind : Int
  cmd : Int
  ver : Int
  auth : Bytes
  family : Int
  ae : Int
  pfx : Bytes
  plen : Int
  tag : Int
  next : Bytes
  metric : Int
  id : Bytes
  seq : Int
  seq2 : Int
  interval : Int
  flags : Int
  hops : Int
  nonce : Int
  cost : Int
  addr : Bytes
  orig : Bytes
  list : List Dest
  type : Int
  data : Bytes
  subs : List SubT
deriving DecidableEq, Inhabited
structure Tlv where
  type : Int
  at_ : Int
  data : Bytes
deriving DecidableEq, Inhabited

/-- Names of variables in memory, and of rows: of the operation that makes them, of a loop's slot, of a parameter, of a variable's cell. -/
inductive Nm where
  | op (d : Nat)
  | loc (s : Nat)
  | arg (j : Nat)
  | cell (o : Nm) (i : Nat)
deriving DecidableEq
def Nm.beq : Nm → Nm → Bool
  | .op a, .op b => Nat.beq a b
  | .loc a, .loc b => Nat.beq a b
  | .arg a, .arg b => Nat.beq a b
  | .cell o i, .cell p j => Nm.beq o p && Nat.beq i j
  | _, _ => false
/-- Places of the state. -/
inductive Loc where
  | slot (n : Nat)
  | cell (o : Nm) (i : Nat)
  | row (r : Nm)
  | obj (o : Nm)
deriving DecidableEq
def Loc.beq : Loc → Loc → Bool
  | .slot a, .slot b => Nat.beq a b
  | .cell o i, .cell p j => Nm.beq o p && Nat.beq i j
  | .row a, .row b => Nm.beq a b
  | .obj a, .obj b => Nm.beq a b
  | _, _ => false
/-- A list, by the kind of its elements. -/
inductive LS where
  | u8 (xs : List UInt8)
  | int (xs : List Int)
  | str (xs : List Bytes)
  | dest (xs : List Dest)
  | sub (xs : List SubT)
  | msg (xs : List Msg)
  | tlv (xs : List Tlv)
  | ptr (xs : List (Nm × Nat))

inductive LTag where
  | u8 | int | str | dest | sub | msg | tlv | ptr

/-- A value without memory. -/
inductive FV where
  | any
  | int (k : IntKind) (n : Int)
  | bool (b : Bool)
  | str (s : Bytes)
  | nilsl
  | sl (xs : LS)
  | own (r : Nm) (g : Nat)
  | ownv (g : Nat) (xs : LS)
  | dead (g : Nat)
  | agg (vs : List FV)
  | tup (vs : List FV)
  | nilp
  | ptr (o : Nm) (off : Nat)
  | aptr (o : Nm) (base esz n : Nat) (i : Int)
  | eptr (x : FV) (off : Nat)
  | optr (r : Nm) (g : Nat) (i : Int)
  | fn (f : Nat)
  | nilfn
  | obj (n : Nat)

def FV.cells : FV → List FV
  | .agg vs => vs
  | v => [v]
def i64 (n : Int) : FV := .int .i64 n
def Dest.fv (d : Dest) : FV := .agg [.str d.addr, .int .i64 d.seq]
def SubT.fv (d : SubT) : FV := .agg [.int .i64 d.type, .str d.data]
def Tlv.fv (d : Tlv) : FV := .agg [.int .i64 d.type, .int .i64 d.at_, .str d.data]
def Msg.fv (m : Msg) : FV := .agg [.int .i64 m.kind, .int .i64 m.cmd, .int .i64 m.ver, .str m.auth, .int .i64 m.family, .int .i64 m.ae, .str m.pfx, .int .i64 m.plen, .int .i64 m.tag, .str m.next, .int .i64 m.metric, .str m.id, .int .i64 m.seq, .int .i64 m.seq2, .int .i64 m.interval, .int .i64 m.flags, .int .i64 m.hops, .int .i64 m.nonce, .int .i64 m.cost, .str m.addr, .str m.orig, .sl (.dest m.list), .int .i64 m.type, .str m.data, .sl (.sub m.subs)]

def asDests : FV → Option (List Dest)
  | .nilsl => some []
  | .sl (.dest xs) => some xs
  | _ => none
def asSubs : FV → Option (List SubT)
  | .nilsl => some []
  | .sl (.sub xs) => some xs
  | _ => none
def Dest.of : FV → Option Dest
  | .agg [.str a, .int .i64 s] => some ⟨a, s⟩
  | _ => none
def SubT.of : FV → Option SubT
  | .agg [.int .i64 t, .str d] => some ⟨t, d⟩
  | _ => none
def Tlv.of : FV → Option Tlv
  | .agg [.int .i64 t, .int .i64 a, .str d] => some ⟨t, a, d⟩
  | _ => none
def Msg.of : FV → Option Msg
  | .agg [.int .i64 kind, .int .i64 cmd, .int .i64 ver, .str auth, .int .i64 family, .int .i64 ae, .str pfx, .int .i64 plen, .int .i64 tag, .str next, .int .i64 metric, .str id, .int .i64 seq, .int .i64 seq2, .int .i64 interval, .int .i64 flags, .int .i64 hops, .int .i64 nonce, .int .i64 cost, .str addr, .str orig, ls, .int .i64 type, .str data, ss] =>
    match asDests ls, asSubs ss with
    | some l, some s => some ⟨kind, cmd, ver, auth, family, ae, pfx, plen, tag, next, metric, id, seq, seq2, interval, flags, hops, nonce, cost, addr, orig, l, type, data, s⟩
    | _, _ => none
  | _ => none

def u8i (b : UInt8) : Int := (b.toNat : Int)
def iu8 (n : Int) : UInt8 := UInt8.ofNat n.toNat
def LS.len : LS → Nat
  | .u8 xs => xs.length | .int xs => xs.length | .str xs => xs.length | .dest xs => xs.length | .sub xs => xs.length | .msg xs => xs.length | .tlv xs => xs.length | .ptr xs => xs.length
def LS.get : LS → Nat → FV
  | .u8 xs, i => .int .u8 (u8i (xs.getD i 0))
  | .int xs, i => .int .i64 (xs.getD i 0)
  | .str xs, i => .str (xs.getD i [])
  | .dest xs, i => (xs.getD i default).fv
  | .sub xs, i => (xs.getD i default).fv
  | .msg xs, i => (xs.getD i default).fv
  | .tlv xs, i => (xs.getD i default).fv
  | .ptr xs, i => .ptr (xs.getD i (.op 0, 0)).1 (xs.getD i (.op 0, 0)).2
def LS.esz : LS → Nat
  | .u8 _ | .int _ | .str _ | .ptr _ => 1
  | .dest _ | .sub _ => 2
  | .msg _ => 25
  | .tlv _ => 3
def LS.slice : LS → Nat → Nat → LS
  | .u8 xs, l, h => .u8 ((xs.take h).drop l) | .int xs, l, h => .int ((xs.take h).drop l) | .str xs, l, h => .str ((xs.take h).drop l)
  | .dest xs, l, h => .dest ((xs.take h).drop l) | .sub xs, l, h => .sub ((xs.take h).drop l) | .msg xs, l, h => .msg ((xs.take h).drop l)
  | .tlv xs, l, h => .tlv ((xs.take h).drop l) | .ptr xs, l, h => .ptr ((xs.take h).drop l)
def LS.app : LS → LS → Option LS
  | .u8 xs, .u8 ys => some (.u8 (xs ++ ys)) | .int xs, .int ys => some (.int (xs ++ ys)) | .str xs, .str ys => some (.str (xs ++ ys))
  | .dest xs, .dest ys => some (.dest (xs ++ ys)) | .sub xs, .sub ys => some (.sub (xs ++ ys)) | .msg xs, .msg ys => some (.msg (xs ++ ys))
  | .tlv xs, .tlv ys => some (.tlv (xs ++ ys)) | .ptr xs, .ptr ys => some (.ptr (xs ++ ys))
  | _, _ => none
def LTag.nil : LTag → LS
  | .u8 => .u8 [] | .int => .int [] | .str => .str [] | .dest => .dest [] | .sub => .sub [] | .msg => .msg [] | .tlv => .tlv [] | .ptr => .ptr []
def LTag.esz : LTag → Nat
  | .u8 | .int | .str | .ptr => 1
  | .dest | .sub => 2
  | .msg => 25
  | .tlv => 3
def LTag.bytes : LTag → Nat
  | .u8 => 1 | .int => 8 | .str => 16 | .dest => 24 | .sub => 24 | .msg => 288 | .tlv => 32 | .ptr => 8
def LTag.one : LTag → FV → Option LS
  | .u8, .int .u8 n => some (.u8 [iu8 n])
  | .int, .int .i64 n => some (.int [n])
  | .str, .str s => some (.str [s])
  | .dest, v => (Dest.of v).map fun d => .dest [d]
  | .sub, v => (SubT.of v).map fun d => .sub [d]
  | .msg, v => (Msg.of v).map fun d => .msg [d]
  | .tlv, v => (Tlv.of v).map fun d => .tlv [d]
  | .ptr, .ptr o f => some (.ptr [(o, f)])
  | _, _ => none
def LTag.all : LTag → List FV → Option LS
  | t, [] => some t.nil
  | t, v :: vs => match t.one v, t.all vs with
    | some a, some b => a.app b
    | _, _ => none
def LTag.zeros : LTag → Nat → Option LS
  | .u8, n => some (.u8 (List.replicate n 0))
  | .int, n => some (.int (List.replicate n 0))
  | .str, n => some (.str (List.replicate n []))
  | t, 0 => some t.nil
  | _, _ => none
def LS.set : LS → Nat → FV → Option LS
  | .u8 xs, i, .int .u8 n => some (.u8 (xs.set i (iu8 n)))
  | .int xs, i, .int .i64 n => some (.int (xs.set i n))
  | .str xs, i, .str s => some (.str (xs.set i s))
  | _, _, _ => none

/-! ### 2. Types, as far as they are needed -/
inductive SK where
  | int | str | bool
inductive TD where
  | int (k : IntKind)
  | bool
  | str
  | func
  | ptr
  | struct (offs szs : List Nat) (size : Nat) (zero : List FV) (kinds : List SK)
  | arr (n esz : Nat) (zero : List FV) (eagg : Bool)
  | slice (t : LTag)
def TD.zero : TD → FV
  | .int k => .int k 0
  | .bool => .bool false
  | .str => .str []
  | .func => .nilfn
  | .ptr => .nilp
  | .struct _ _ _ z _ => .agg z
  | .arr _ _ z _ => .agg z
  | .slice _ => .nilsl
def TD.size : TD → Nat
  | .struct _ _ s _ _ => s
  | .arr n e _ _ => n * e
  | _ => 1
def TD.isAgg : TD → Bool
  | .struct .. | .arr .. => true
  | _ => false
abbrev TT := List (Nat × TD)
def look {α : Type} : List (Nat × α) → Nat → Option α
  | [], _ => none
  | (k, v) :: r, n => bif Nat.beq k n then some v else look r n

/-! ### 3. The state -/
abbrev St := List (Loc × FV)
def St.get : St → Loc → FV
  | [], _ => .any
  | (k, v) :: r, n => bif Loc.beq k n then v else St.get r n

inductive Q (α : Type) where
  | pure (a : α)
  | rd (l : Loc) (k : FV → Q α)
  | fail
def Q.bind {α β : Type} : Q α → (α → Q β) → Q β
  | .pure a, f => f a
  | .rd l k, f => .rd l fun v => (k v).bind f
  | .fail, _ => .fail
instance : Monad Q where
  pure := Q.pure
  bind := Q.bind
def Q.run {α : Type} (st : St) : Q α → Option α
  | .pure a => some a
  | .rd l k => (k (st.get l)).run st
  | .fail => none
def Q.reads {α : Type} (st : St) : Q α → List Loc
  | .pure _ => []
  | .rd l k => l :: (k (st.get l)).reads st
  | .fail => []
def Q.get (l : Loc) : Q FV := .rd l .pure
def Q.of {α : Type} : Option α → Q α
  | some a => .pure a
  | none => .fail
/-- What an operation asks, and what it writes. -/
structure Eff where
  asks : List Bool
  ws : List (Loc × FV)
def conj : List Bool → Prop → Prop
  | [], k => k
  | p :: ps, k => p ∧ conj ps k
/-- A function's plain law: arguments and the variables behind its pointers; what it asks, its result, the variables. -/
abbrev FSpec := List FV → List (List FV) → Option (List Bool × FV × List (List FV))

def IntKind.inB (k : IntKind) (n : Int) : Bool := decide (k.min ≤ n) && decide (n ≤ k.max)
def ofConst1 : Value → Option FV
  | .int k n => if IntKind.inB k n then some (.int k n) else none
  | .bool b => some (.bool b)
  | .string s => if Nat.ble s.data.toList.length 1048576 then some (.str s.data.toList) else none
  | .slice none 0 0 => some .nilsl
  | .pointer none => some .nilp
  | .nilFunc => some .nilfn
  | _ => none
def ofConsts : List Value → Option (List FV)
  | [] => some []
  | v :: vs => match ofConst1 v, ofConsts vs with
    | some a, some b => some (a :: b)
    | _, _ => none
def ofConst : Value → Option FV
  | .agg vs => (ofConsts vs.toList).map .agg
  | v => ofConst1 v
def oneOK : FV → Bool
  | .any | .tup _ | .agg _ | .obj _ | .ownv .. | .dead _ => false
  | _ => true
def noAny : List FV → Bool
  | [] => true
  | v :: vs => oneOK v && noAny vs
def notPtr : LS → Bool
  | .ptr _ => false
  | _ => true
def ev : Operand → Q FV
  | .tmp t => .rd (.slot t) .pure
  | .const v => .of (ofConst v)
  | .func f => .pure (.fn f)
  | .global _ => .fail
def evs : List Operand → Q (List FV)
  | [] => .pure []
  | x :: xs => do
    let v ← ev x
    let vs ← evs xs
    pure (v :: vs)

/-! ### 4. Operations -/
def ibits (op : BinOp) (k : IntKind) (x y : Int) : Int :=
  let a := BitVec.ofInt k.bits x
  let b := BitVec.ofInt k.bits y
  match op with
  | .and => k.wrap (a &&& b).toNat
  | .or => k.wrap (a ||| b).toNat
  | .xor => k.wrap (a ^^^ b).toNat
  | _ => k.wrap (a &&& ~~~b).toNat
def ishl (k : IntKind) (x y : Int) : Int := k.wrap (x * 2 ^ (min y.toNat k.bits))
def ishr (k : IntKind) (x y : Int) : Int := x.fdiv (2 ^ (min y.toNat k.bits))
def aggEq : List SK → List FV → List FV → Option Bool
  | [], [], [] => some true
  | .int :: ks, .int k a :: xs, .int k' b :: ys => if k = k' then (aggEq ks xs ys).map fun r => decide (a = b) && r else none
  | .str :: ks, .str a :: xs, .str b :: ys => (aggEq ks xs ys).map fun r => decide (a = b) && r
  | .bool :: ks, .bool a :: xs, .bool b :: ys => (aggEq ks xs ys).map fun r => decide (a = b) && r
  | _, _, _ => none
/-- '==' of what is neither a number nor a text. -/
def eqFV (td : TD) (x y : FV) : Option Bool :=
  match td, x, y with
  | .bool, .bool a, .bool b => some (decide (a = b))
  | .struct _ _ _ _ (k :: ks), .agg xs, .agg ys => aggEq (k :: ks) xs ys
  | .ptr, .nilp, .nilp => some true
  | .ptr, .nilp, .ptr .. => some false
  | .ptr, .ptr .., .nilp => some false
  | _, _, _ => none
def fbin (op : BinOp) (x y : FV) : Option (List Bool × FV) :=
  match x, y with
  | .int k a, .int k' b =>
    match op with
    | .shl => some ([0 ≤ b], .int k (ishl k a b))
    | .shr => some ([0 ≤ b], .int k (ishr k a b))
    | _ => if k = k' then
      match op with
      | .add => some ([], .int k (k.wrap (a + b)))
      | .sub => some ([], .int k (k.wrap (a - b)))
      | .mul => some ([], .int k (k.wrap (a * b)))
      | .quo => some ([b ≠ 0], .int k (k.wrap (a.tdiv b)))
      | .rem => some ([b ≠ 0], .int k (a.tmod b))
      | .and => some ([], .int k (ibits .and k a b))
      | .or => some ([], .int k (ibits .or k a b))
      | .xor => some ([], .int k (ibits .xor k a b))
      | .andNot => some ([], .int k (ibits .andNot k a b))
      | .eql => some ([], .bool (decide (a = b)))
      | .neq => some ([], .bool (!decide (a = b)))
      | .lss => some ([], .bool (decide (a < b)))
      | .leq => some ([], .bool (decide (a ≤ b)))
      | .gtr => some ([], .bool (decide (a > b)))
      | .geq => some ([], .bool (decide (a ≥ b)))
      | _ => none
      else none
  | .str a, .str b =>
    match op with
    | .add => some ([a.length + b.length ≤ 4611686018427387904], .str (a ++ b))
    | .eql => some ([], .bool (decide (a = b)))
    | .neq => some ([], .bool (!decide (a = b)))
    | _ => none
  | _, _ => none
def fun1 (op : UnOp) (x : FV) : Option FV :=
  match op, x with
  | .not, .bool b => some (.bool (!b))
  | .neg, .int k n => some (.int k (k.wrap (0 - n)))
  | .xor, .int k n => some (.int k (ibits .xor k (if k.signed then -1 else k.max) n))
  | _, _ => none
/-- The element at a place of a row of cells, column by column. -/
def selInt : List FV → Int → Int
  | [], _ => 0
  | .int _ n :: r, i => if i = 0 then n else selInt r (i - 1)
  | _ :: _, _ => 0
def selStr : List FV → Int → Bytes
  | [], _ => []
  | .str s :: r, i => if i = 0 then s else selStr r (i - 1)
  | _ :: _, _ => []
def allInt (k : IntKind) : List FV → Bool
  | [] => true
  | .int k' _ :: r => decide (k' = k) && allInt k r
  | _ :: _ => false
def allStr : List FV → Bool
  | [] => true
  | .str _ :: r => allStr r
  | _ :: _ => false
def selCol (col : List FV) (i : Int) : Option FV :=
  match col with
  | .int k _ :: _ => if allInt k col then some (.int k (selInt col i)) else none
  | .str _ :: _ => if allStr col then some (.str (selStr col i)) else none
  | _ => none
def column (cells : List FV) (esz j : Nat) : Nat → List FV
  | 0 => []
  | n + 1 => cells.getD j .any :: column (cells.drop esz) esz j n
def selCols (cells : List FV) (esz n : Nat) (i : Int) : Nat → Option (List FV)
  | 0 => some []
  | j + 1 => match selCols cells esz n i j, selCol (column cells esz j n) i with
    | some l, some v => some (l ++ [v])
    | _, _ => none
def selElem (cells : List FV) (esz n : Nat) (i : Int) (agg : Bool) : Option FV :=
  match selCols cells esz n i esz with
  | some l => if agg then some (.agg l) else match l with
    | [v] => some v
    | _ => none
  | none => none
def put (d : Option Tmp) (v : FV) : List (Loc × FV) :=
  match d with
  | some d => [(.slot d, v)]
  | none => []
def cellsW (o : Nm) : Nat → List FV → List (Loc × FV)
  | _, [] => []
  | i, v :: vs => (.cell o i, v) :: cellsW o (i + 1) vs
def readCells (o : Nm) (off : Nat) : Nat → Q (List FV)
  | 0 => .pure []
  | n + 1 => do
    let v ← Q.get (.cell o off)
    let vs ← readCells o (off + 1) n
    pure (v :: vs)
def rowc (r : Nm) (g : Nat) : Q LS := do
  match ← Q.get (.row r) with
  | .ownv g' xs => if Nat.beq g g' then pure xs else .fail
  | _ => .fail
def tagIs : LTag → LS → Bool
  | .u8, .u8 _ | .int, .int _ | .str, .str _ | .dest, .dest _ | .sub, .sub _ | .msg, .msg _ | .tlv, .tlv _ | .ptr, .ptr _ => true
  | _, _ => false
def lsOf (t : LTag) : FV → Q LS
  | .nilsl => .pure t.nil
  | .sl xs => if tagIs t xs then .pure xs else .fail
  | .own r g => do
    let xs ← rowc r g
    if tagIs t xs then pure xs else .fail
  | _ => .fail
/-- Rows inside a value that goes on: they are read, and written no more. -/
def freezes : List FV → Q (List FV × List (Loc × FV))
  | [] => .pure ([], [])
  | .own r g :: vs => do
    let xs ← rowc r g
    let (l, ws) ← freezes vs
    if notPtr xs then pure (.sl xs :: l, (.row r, .dead g) :: ws) else .fail
  | v :: vs => do
    let (l, ws) ← freezes vs
    pure (v :: l, ws)
def freeze1 : FV → Q (FV × List (Loc × FV))
  | .agg vs => do
    let (l, ws) ← freezes vs
    pure (.agg l, ws)
  | v => do
    match ← freezes [v] with
    | ([u], ws) => pure (u, ws)
    | _ => .fail
def freezeAll : List FV → Q (List FV × List (Loc × FV))
  | [] => .pure ([], [])
  | v :: vs => do
    let (u, ws) ← freeze1 v
    let (l, ws') ← freezeAll vs
    pure (u :: l, ws ++ ws')
def newGen (r : Nm) : Q Nat := do
  match ← Q.get (.row r) with
  | .any => pure 0
  | .ownv g _ => pure (g + 1)
  | .dead g => pure (g + 1)
  | _ => .fail
def freshObj (o : Nm) : Q Unit := do
  match ← Q.get (.obj o) with
  | .any => pure ()
  | _ => .fail
def fload (td : TD) : FV → Q (List Bool × FV)
  | .ptr o off => do
    match ← Q.get (.obj o) with
    | .obj n =>
      if Nat.ble (off + td.size) n then
        let vs ← readCells o off td.size
        if td.isAgg then pure ([], .agg vs) else match vs with
          | [v] => pure ([], v)
          | _ => .fail
      else .fail
    | _ => .fail
  | .eptr x off =>
    let vs := (x.cells.drop off).take td.size
    if Nat.beq vs.length td.size then
      if td.isAgg then .pure ([], .agg vs) else match vs with
        | [v] => .pure ([], v)
        | _ => .fail
    else .fail
  | .optr r g i => do
    let xs ← rowc r g
    let vs := (xs.get i.toNat).cells
    if Nat.beq vs.length td.size then
      if td.isAgg then pure ([], .agg vs) else match vs with
        | [v] => pure ([], v)
        | _ => .fail
    else .fail
  | .aptr o base esz n i => do
    match ← Q.get (.obj o) with
    | .obj m =>
      if Nat.ble (base + n * esz) m && Nat.beq td.size esz then
        let vs ← readCells o base (n * esz)
        match selElem vs esz n i td.isAgg with
        | some v => pure ([], v)
        | none => .fail
      else .fail
    | _ => .fail
  | _ => .fail
def setSel (i : Int) : Int → List FV → FV → Option (List FV)
  | _, [], _ => some []
  | j, .str s :: r, .str u => (setSel i (j + 1) r (.str u)).map fun l => .str (if i = j then u else s) :: l
  | j, .int k s :: r, .int k' u => if k = k' then (setSel i (j + 1) r (.int k' u)).map fun l => .int k (if i = j then u else s) :: l else none
  | _, _, _ => none
def fstore (td : TD) (a v : FV) : Q (List (Loc × FV)) :=
  match a with
  | .ptr o off => do
    match ← Q.get (.obj o) with
    | .obj n => if Nat.ble (off + td.size) n && Nat.beq v.cells.length td.size && noAny v.cells then pure (cellsW o off v.cells) else .fail
    | _ => .fail
  | .optr r g i => do
    let xs ← rowc r g
    match xs.set i.toNat v with
    | some ys => if Nat.beq td.size 1 then pure [(.row r, .ownv g ys)] else .fail
    | none => .fail
  | .aptr o base esz n i => do
    match ← Q.get (.obj o) with
    | .obj m =>
      if Nat.ble (base + n) m && Nat.beq esz 1 && Nat.beq td.size 1 then
        let vs ← readCells o base n
        match setSel i 0 vs v with
        | some l => pure (cellsW o base l)
        | none => .fail
      else .fail
    | _ => .fail
  | _ => .fail
def fillCells (offs szs : List Nat) : List FV → List (Nat × FV) → Option (List FV)
  | cells, [] => some cells
  | cells, (i, v) :: r =>
    let vs := v.cells
    let off := offs.getD i 0
    if Nat.beq vs.length (szs.getD i 0) && Nat.blt i offs.length && noAny vs && Nat.ble (off + vs.length) cells.length then fillCells offs szs (cells.take off ++ vs ++ cells.drop (off + vs.length)) r else none
def stepN (esz : Nat) : Nat → Nat → List Nat
  | 0, _ => []
  | n + 1, k => k :: stepN esz n (k + esz)
def evParts : List (Nat × Operand) → Q (List (Nat × FV))
  | [] => .pure []
  | (i, x) :: r => do
    let v ← ev x
    let l ← evParts r
    pure ((i, v) :: l)
/-- The elements of a literal, one behind the other. -/
def partsInOrder : Nat → List (Nat × FV) → Option (List FV)
  | _, [] => some []
  | k, (i, v) :: r => if Nat.beq i k then (partsInOrder (k + 1) r).map (v :: ·) else none
def fconv (s d : TD) (x : FV) : Q (List Bool × FV) :=
  match d, x with
  | .int k, .int _ n => .pure ([], .int k (k.wrap n))
  | .str, .str v => .pure ([], .str v)
  | .str, v => match s with
    | .slice .u8 => do
      match ← lsOf .u8 v with
      | .u8 xs => pure ([], .str xs)
      | _ => .fail
    | _ => .fail
  | _, _ => .fail
def boundOf (n : Nat) : Option FV → Q (Int)
  | none => .pure n
  | some (.int _ i) => .pure i
  | some _ => .fail
def fslice (td : TD) (x : FV) (lo hi : Option FV) : Q (List Bool × FV × List (Loc × FV)) :=
  match td, x with
  | .str, .str s => do
    let l ← boundOf 0 lo
    let h ← boundOf s.length hi
    pure ([0 ≤ l, l ≤ h, h ≤ s.length], .str ((s.take h.toNat).drop l.toNat), [])
  | .slice t, x => do
    let xs ← lsOf t x
    let l ← boundOf 0 lo
    let h ← boundOf xs.len hi
    let ws := match x with | .own r g => [(Loc.row r, FV.dead g)] | _ => []
    if notPtr xs then pure ([0 ≤ l, l ≤ h, h ≤ xs.len], .sl (xs.slice l.toNat h.toNat), ws) else .fail
  | _, _ => .fail
def ffieldAddr (td : TD) (x : FV) (f : Nat) : Option FV :=
  match td with
  | .struct offs _ _ _ _ => if Nat.blt f offs.length then
      match x with
      | .ptr o off => some (.ptr o (off + offs.getD f 0))
      | .eptr v off => some (.eptr v (off + offs.getD f 0))
      | _ => none
    else none
  | _ => none
def ffield (td : TD) (x : FV) (f : Nat) : Option FV :=
  match td, x with
  | .struct _ _ _ _ ks, .agg vs => if Nat.blt f ks.length then vs[f]? else none
  | _, _ => none
def findexAddr (td : TD) (x i : FV) : Q (List Bool × FV) :=
  match td, i with
  | .arr n esz _ _, .int _ k =>
    match x with
    | .ptr o off => .pure ([0 ≤ k, k < n], .aptr o off esz n k)
    | _ => .fail
  | .slice t, .int _ k =>
    match x with
    | .nilsl => .pure ([False], .any)
    | .sl xs => if tagIs t xs then .pure ([0 ≤ k, k < xs.len], .eptr (xs.get k.toNat) 0) else .fail
    | .own r g => do
      let xs ← lsOf t (.own r g)
      pure ([0 ≤ k, k < xs.len], .optr r g k)
    | _ => .fail
  | _, _ => .fail
def findex (td : TD) (x i : FV) : Q (List Bool × FV) :=
  match td, x, i with
  | .str, .str s, .int _ k => .pure ([0 ≤ k, k < s.length], .int .u8 (u8i (s.getD k.toNat 0)))
  | .arr n esz _ eagg, .agg vs, .int _ k =>
    if Nat.beq vs.length (n * esz) then
      match selElem vs esz n k eagg with
      | some v => .pure ([0 ≤ k, k < n], v)
      | none => .fail
    else .fail
  | _, _, _ => .fail
def fbuiltin (b : Builtin) (tds : List TD) (d : Option Tmp) (args : List FV) : Q Eff :=
  match b, tds, args with
  | .len, [.str], [.str s] => .pure ⟨[], put d (.int .i64 s.length)⟩
  | .len, [.slice t], [x] => do
    let xs ← lsOf t x
    pure ⟨[], put d (.int .i64 xs.len)⟩
  | .min, _, [.int k a, .int k' b] => if k = k' then .pure ⟨[], put d (.int k (if b < a then b else a))⟩ else .fail
  | .max, _, [.int k a, .int k' b] => if k = k' then .pure ⟨[], put d (.int k (if b > a then b else a))⟩ else .fail
  | .append, [.slice t, tx], [s, x] =>
    match d with
    | none => .fail
    | some d => do
      let xs ← lsOf t s
      let ys ← (match tx, x with
        | .str, .str b => .pure (LS.u8 b)
        | .slice _, x => lsOf t x
        | _, _ => .fail)
      match xs.app ys with
      | none => .fail
      | some zs =>
        match s with
        | .own r g =>
          if Nm.beq r (.op d) then pure ⟨[zs.len * t.bytes ≤ 140737488355328], [(.slot d, .own (.op d) (g + 1)), (.row (.op d), .ownv (g + 1) zs)]⟩
          else do
            let g' ← newGen (.op d)
            pure ⟨[zs.len * t.bytes ≤ 140737488355328], [(.slot d, .own (.op d) g'), (.row (.op d), .ownv g' zs), (.row r, .dead g)]⟩
        | .nilsl => do
          let g' ← newGen (.op d)
          pure ⟨[zs.len * t.bytes ≤ 140737488355328], [(.slot d, .own (.op d) g'), (.row (.op d), .ownv g' zs)]⟩
        | _ => .fail
  | .copy, [.slice .u8, tx], [.own r g, x] => do
    match ← rowc r g with
    | .u8 xs =>
      let ys ← (match tx, x with
        | .str, .str b => .pure (LS.u8 b)
        | .slice .u8, x => lsOf .u8 x
        | _, _ => .fail)
      match ys with
      | .u8 ys => pure ⟨[ys.length ≤ xs.length], put d (.int .i64 ys.length) ++ [(.row r, .ownv g (.u8 (ys ++ xs.drop ys.length)))]⟩
      | _ => .fail
    | _ => .fail
  | _, _, _ => .fail

/-! ### 5. Parts of the state, handed on under other names -/
def memNm (n : Nm) : List Nm → Bool
  | [] => false
  | m :: r => Nm.beq n m || memNm n r
def nodupNm : List Nm → Bool
  | [] => true
  | n :: r => !memNm n r && nodupNm r
def memL (n : Loc) : List Loc → Bool
  | [] => false
  | m :: r => Loc.beq n m || memL n r
def meets : List Loc → List Loc → Bool
  | [], _ => false
  | n :: r, l => memL n l || meets r l
def nodupL : List Loc → Bool
  | [] => true
  | n :: r => !memL n r && nodupL r
def rowsOf : List FV → List Nm
  | [] => []
  | .own r _ :: vs => r :: rowsOf vs
  | _ :: vs => rowsOf vs
/-- What may lie in a variable that is handed on. -/
def plainCell : FV → Bool
  | .any | .int .. | .bool _ | .str _ | .nilsl | .sl _ | .fn _ | .nilfn | .nilp => true
  | _ => false
def plainAll : List FV → Bool
  | [] => true
  | v :: vs => plainCell v && plainAll vs
def plainS : FV → Bool
  | .agg vs => plainAll vs
  | v => plainCell v
def plainSs : List FV → Bool
  | [] => true
  | v :: vs => plainS v && plainSs vs
def plainR : FV → Bool
  | .tup vs => plainSs vs
  | v => plainS v
/-- A place: its name outside, its name inside, what it holds outside. -/
structure Pl where
  ol : Loc
  il : Loc
  oc : FV
def cellPl (o : Nm) (j : Nat) : Nat → List FV → List Pl
  | _, [] => []
  | i, v :: vs => ⟨.cell o i, .cell (.arg j) i, v⟩ :: cellPl o j (i + 1) vs
def objPl : Nat → List (Nm × List FV) → List Pl
  | _, [] => []
  | j, (o, cs) :: r => cellPl o j 0 cs ++ objPl (j + 1) r
def slotPl : List (Nat × Option LTag) → List FV → List Pl
  | (s, _) :: r, v :: vs => ⟨.slot s, .slot s, v⟩ :: slotPl r vs
  | _, _ => []
def nmOf : Loc → Nm
  | .slot s => .loc s
  | .cell o i => .cell o i
  | .row r => r
  | .obj o => o
def enterW : List Pl → List FV → St
  | p :: ps, .ownv _ xs :: ds => (p.il, .own (nmOf p.il) 0) :: (.row (nmOf p.il), .ownv 0 xs) :: enterW ps ds
  | p :: ps, d :: ds => (p.il, d) :: enterW ps ds
  | _, _ => []
def objHeads : Nat → List (List FV) → St
  | _, [] => []
  | j, cs :: r => (.obj (.arg j), .obj cs.length) :: objHeads (j + 1) r
def args0 : Nat → List (List FV) → List (Nm × List FV)
  | _, [] => []
  | j, cs :: r => (.arg j, cs) :: args0 (j + 1) r
/-- The state at the start of a part: slots and variables. -/
def entry (ins : List (Nat × Option LTag)) (vs : List FV) (objs : List (List FV)) : St :=
  enterW (slotPl ins vs ++ objPl 0 (args0 0 objs)) (vs ++ objs.flatten) ++ objHeads 0 objs
def idxOf : List (Nm × List FV) → Nat → Nm → Option Nat
  | [], _, _ => none
  | (p, _) :: r, k, o => bif Nm.beq p o then some k else idxOf r (k + 1) o
def innerV (os : List (Nm × List FV)) (t : Option LTag) : FV → Q FV
  | .own r g => do
    let xs ← rowc r g
    if notPtr xs then pure (.ownv 0 xs) else .fail
  | .nilsl => match t with
    | some t => if notPtr t.nil then .pure (.ownv 0 t.nil) else .fail
    | none => .pure .nilsl
  | .ptr o 0 => match idxOf os 0 o with
    | some j => .pure (.ptr (.arg j) 0)
    | none => .fail
  | v => if plainS v then .pure v else .fail
def innerVs (os : List (Nm × List FV)) : List (Nat × Option LTag) → List FV → Q (List FV)
  | [], [] => .pure []
  | (_, t) :: ins, v :: vs => do
    let d ← innerV os t v
    let ds ← innerVs os ins vs
    pure (d :: ds)
  | _, _ => .fail
def extCells : List FV → Q (List FV)
  | [] => .pure []
  | .own r g :: vs => do
    let xs ← rowc r g
    let l ← extCells vs
    if notPtr xs then pure (.ownv 0 xs :: l) else .fail
  | v :: vs => do
    let l ← extCells vs
    if plainCell v then pure (v :: l) else .fail
def extObjs : List (Nm × List FV) → Q (List (List FV))
  | [] => .pure []
  | (_, cs) :: r => do
    let e ← extCells cs
    let l ← extObjs r
    pure (e :: l)
def ptrNames : List FV → List Nm
  | [] => []
  | .ptr o 0 :: vs => bif memNm o (ptrNames vs) then ptrNames vs else o :: ptrNames vs
  | _ :: vs => ptrNames vs
def readObjs : List Nm → Q (List (Nm × List FV))
  | [] => .pure []
  | o :: os => do
    match ← Q.get (.obj o) with
    | .obj n => do
      let cs ← readCells o 0 n
      let l ← readObjs os
      pure ((o, cs) :: l)
    | _ => .fail
/-- A part: its values, its variables. The writes are what was frozen ahead of it. -/
def subSt (names : List Nm) (ins : List (Nat × Option LTag)) (vs : List FV) (ws : St) : Q (List FV × List (Nm × List FV) × List (List FV)) := do
  let os ← readObjs names
  let ds ← innerVs os ins vs
  let ext ← extObjs os
  let pls := slotPl ins vs ++ objPl 0 os
  if nodupL (pls.map (·.ol)) && nodupL (pls.map (·.il)) && nodupNm (os.map (·.1)) && nodupNm (rowsOf (pls.map (·.oc))) && !meets ((rowsOf (pls.map (·.oc))).map .row) (ws.map (·.1)) then pure (ds, os, ext) else .fail
def sameNats : List Nat → List Nat → Bool
  | [], [] => true
  | a :: as, b :: bs => Nat.beq a b && sameNats as bs
  | _, _ => false
/-- Behind a part: what is written outside. -/
def backW (os : List (Nm × List FV)) : List Pl → List FV → Q St
  | [], [] => .pure []
  | p :: ps, d :: ds => do
    let l ← backW os ps ds
    match p.oc, d with
    | .own r g, .ownv _ xs => if notPtr xs then pure ((p.ol, .own r (g + 1)) :: (.row r, .ownv (g + 1) xs) :: l) else .fail
    | .ptr o 0, .ptr (.arg j) 0 => match idxOf os 0 o with
      | some k => if Nat.beq j k then pure l else .fail
      | none => .fail
    | _, .ownv _ xs => do
      let g ← newGen (nmOf p.ol)
      if notPtr xs then pure ((p.ol, .own (nmOf p.ol) g) :: (.row (nmOf p.ol), .ownv g xs) :: l) else .fail
    | .own r g, v => if plainCell v then pure ((p.ol, v) :: (.row r, .dead g) :: l) else .fail
    | .ptr _ _, _ => .fail
    | _, v => if plainCell v || (plainS v && (match p.ol with | .slot _ => true | _ => false)) then pure ((p.ol, v) :: l) else .fail
  | _, _ => .fail
def backSt (ins : List (Nat × Option LTag)) (vs : List FV) (os : List (Nm × List FV)) (ws : St) (us : List FV) (objs : List (List FV)) : Q St := do
  let back ← backW os (slotPl ins vs ++ objPl 0 os) (us ++ objs.flatten)
  if sameNats (objs.map List.length) (os.map (·.2.length)) && nodupL (back.map (·.1)) && nodupNm (rowsOf (back.map (·.2))) && !meets (back.map (·.1)) (ws.map (·.1)) then pure back else .fail
def handOK : List FV → Bool
  | [] => true
  | .ptr _ _ :: vs => handOK vs
  | v :: vs => plainS v && handOK vs
/-- A call's arguments: lists are read from now on. -/
def fcall (calls : List (Nat × FSpec)) (d : Option Tmp) (f : FV) (args : List FV) : Q Eff :=
  match f with
  | .fn g => match look calls g with
    | some spec => do
      let (as, ws) ← freezeAll args
      let (_, os, ext) ← subSt (ptrNames as) [] [] ws
      let ds ← innerVs os (as.map fun _ => (0, none)) as
      match spec ds ext with
      | some (asks, r, objs) => do
        let back ← backSt [] [] os ws [] objs
        if plainR r && handOK ds then pure ⟨asks, put d r ++ back ++ ws⟩ else .fail
      | none => .fail
    | none => .fail
  | _ => .fail

def tdQ (tt : TT) (t : Nat) : Q TD := .of (look tt t)
def optEv : Option Operand → Q (Option FV)
  | none => .pure none
  | some x => do
    let v ← ev x
    pure (some v)
def fop (tt : TT) (calls : List (Nat × FSpec)) (o : Oper) : Q Eff :=
  match o.op with
  | .move x => do pure ⟨[], put o.dst (← ev x)⟩
  | .assign x => do pure ⟨[], put o.dst (← ev x)⟩
  | .pick c a b => do
    match ← ev c with
    | .bool c =>
      let x ← ev a
      let y ← ev b
      pure ⟨[], put o.dst (match c with | true => x | false => y)⟩
    | _ => .fail
  | .alloc t => match o.dst with
    | none => .fail
    | some d => do
      let td ← tdQ tt t
      freshObj (.op d)
      pure ⟨[], (.slot d, .ptr (.op d) 0) :: (.obj (.op d), .obj td.zero.cells.length) :: cellsW (.op d) 0 td.zero.cells⟩
  | .box t x => match o.dst with
    | none => .fail
    | some d => do
      let td ← tdQ tt t
      let v ← ev x
      freshObj (.op d)
      if Nat.beq v.cells.length td.size && noAny v.cells then pure ⟨[], (.slot d, .ptr (.op d) 0) :: (.obj (.op d), .obj v.cells.length) :: cellsW (.op d) 0 v.cells⟩ else .fail
  | .build t parts => do
    match ← tdQ tt t with
    | .struct offs szs _ z _ => do
      let ps ← evParts parts.toList
      let cs ← .of (fillCells offs szs z ps)
      pure ⟨[], put o.dst (.agg cs)⟩
    | .arr n esz z _ => do
      let ps ← evParts parts.toList
      let cs ← .of (fillCells (stepN esz n 0) (List.replicate n esz) z ps)
      pure ⟨[], put o.dst (.agg cs)⟩
    | _ => .fail
  | .buildSlice t len parts => match o.dst with
    | none => .fail
    | some d => do
      match ← tdQ tt t with
      | .slice lt => do
        let ps ← evParts parts.toList
        let vs ← .of (partsInOrder 0 ps)
        let (us, ws) ← freezeAll vs
        let xs ← .of (lt.all us)
        let g ← newGen (.op d)
        if Nat.beq us.length len && Nat.ble len 4096 then pure ⟨[], [(.slot d, .own (.op d) g), (.row (.op d), .ownv g xs)] ++ ws⟩ else .fail
      | _ => .fail
  | .load t a => do
    let td ← tdQ tt t
    let v ← ev a
    let (ps, u) ← fload td v
    pure ⟨ps, put o.dst u⟩
  | .store t a x => do
    let td ← tdQ tt t
    let v ← ev a
    let u ← ev x
    let ws ← fstore td v u
    pure ⟨[], put o.dst .any ++ ws⟩
  | .nilCheck x => do
    match ← ev x with
    | .ptr a b => pure ⟨[], put o.dst (.ptr a b)⟩
    | .eptr a b => pure ⟨[], put o.dst (.eptr a b)⟩
    | .optr a b c => pure ⟨[], put o.dst (.optr a b c)⟩
    | .fn f => pure ⟨[], put o.dst (.fn f)⟩
    | _ => .fail
  | .binOp op t x y _ => do
    let a ← ev x
    let b ← ev y
    match a with
    | .int _ _ | .str _ => do
      let (ps, u) ← .of (fbin op a b)
      pure ⟨ps, put o.dst u⟩
    | _ => do
      let td ← tdQ tt t
      let r ← .of (eqFV td a b)
      match op with
      | .eql => pure ⟨[], put o.dst (.bool r)⟩
      | .neq => pure ⟨[], put o.dst (.bool (!r))⟩
      | _ => .fail
  | .unOp op _ x => do
    let a ← ev x
    let u ← .of (fun1 op a)
    pure ⟨[], put o.dst u⟩
  | .convert s d x => do
    let ts ← tdQ tt s
    let td ← tdQ tt d
    let a ← ev x
    match td, a with
    | .slice .u8, .str b => pure ⟨[], put o.dst (.sl (.u8 b))⟩
    | _, _ => do
      let (ps, u) ← fconv ts td a
      pure ⟨ps, put o.dst u⟩
  | .makeSlice t l c => match o.dst with
    | none => .fail
    | some d => do
      match ← tdQ tt t with
      | .slice lt => do
        match ← ev l, ← ev c with
        | .int .i64 n, .int .i64 m => do
          let xs ← .of (lt.zeros n.toNat)
          let g ← newGen (.op d)
          pure ⟨[0 ≤ n, n ≤ m, m * lt.bytes ≤ 140737488355328], [(.slot d, .own (.op d) g), (.row (.op d), .ownv g xs)]⟩
        | _, _ => .fail
      | _ => .fail
  | .slice t x lo hi none => do
    let td ← tdQ tt t
    let v ← ev x
    let l ← optEv lo
    let h ← optEv hi
    let (ps, u, ws) ← fslice td v l h
    pure ⟨ps, put o.dst u ++ ws⟩
  | .fieldAddr t x f => do
    let td ← tdQ tt t
    let v ← ev x
    let u ← .of (ffieldAddr td v f)
    pure ⟨[], put o.dst u⟩
  | .field t x f => do
    let td ← tdQ tt t
    let v ← ev x
    let u ← .of (ffield td v f)
    pure ⟨[], put o.dst u⟩
  | .indexAddr t x i => do
    let td ← tdQ tt t
    let v ← ev x
    let k ← ev i
    let (ps, u) ← findexAddr td v k
    pure ⟨ps, put o.dst u⟩
  | .index t x i => do
    let td ← tdQ tt t
    let v ← ev x
    let k ← ev i
    let (ps, u) ← findex td v k
    pure ⟨ps, put o.dst u⟩
  | .extract t i => do
    match ← ev t with
    | .tup vs => match vs[i]? with
      | some v => pure ⟨[], put o.dst v⟩
      | none => .fail
    | _ => .fail
  | .call c => do
    let args ← evs c.args.toList
    match c.callee with
    | .value f => do
      let g ← ev f
      fcall calls o.dst g args
    | .builtin b => do
      let tds ← (c.argTypes.toList.foldr (fun t q => do
        let td ← tdQ tt t
        let l ← q
        pure (td :: l)) (.pure []))
      fbuiltin b tds o.dst args
    | _ => .fail
  | _ => .fail

/-! ### 6. Code -/
inductive FX where
  | normal
  | exit (id : Nat)
  | ret
def ifb (b : Bool) (x y : Prop) : Prop := match b with
  | true => x
  | false => y
/-- The operations of a region, in the order of the text. -/
def frun (tt : TT) (calls : List (Nat × FSpec)) (all : List Oper) : List Oper → St → List (List Loc × List Loc) → (St → List (List Loc × List Loc) → Prop) → Prop
  | [], st, acc, K => K st acc
  | o :: rest, st, acc, K =>
    match o.guard with
    | none => match (fop tt calls o).run st with
      | some e => conj e.asks (frun tt calls all rest (e.ws ++ st) ((((fop tt calls o).reads st), e.ws.map (·.1)) :: acc) K)
      | none => False
    | some (j, want) =>
      match (all[j]?).bind (·.dst) with
      | none => False
      | some gd => match st.get (.slot gd) with
        | .bool b =>
          let yes (st : St) : Prop := match (fop tt calls o).run st with
            | some e => conj e.asks (frun tt calls all rest (e.ws ++ st) ((.slot gd :: ((fop tt calls o).reads st), e.ws.map (·.1)) :: acc) K)
            | none => False
          let no (st : St) : Prop := frun tt calls all rest (put o.dst (.tup []) ++ st) (([.slot gd], (put o.dst (.tup [])).map (·.1)) :: acc) K
          match want with
          | true => ifb b (yes ((.slot gd, .bool true) :: st)) (no ((.slot gd, .bool false) :: st))
          | false => ifb b (no ((.slot gd, .bool true) :: st)) (yes ((.slot gd, .bool false) :: st))
        | .tup [] => frun tt calls all rest (put o.dst (.tup []) ++ st) (([.slot gd], (put o.dst (.tup [])).map (·.1)) :: acc) K
        | _ => False
def memN (n : Nat) : List Nat → Bool
  | [] => false
  | m :: r => Nat.beq n m || memN n r
/-! ### 7. Any order -/
def directOf (o : Oper) : List Nat := (o.after.toList.filter (Region.binds .any)).map (·.on)
def unionN : List Nat → List Nat → List Nat
  | [], l => l
  | n :: r, l => bif memN n l then unionN r l else n :: unionN r l
/-- The same for all operations, in order: each list is closed. -/
def aheads : List Oper → List (List Nat) → List (List Nat)
  | [], acc => acc
  | o :: r, acc => aheads r (acc ++ [(directOf o).foldr (fun i l => unionN (i :: acc.getD i []) l) []])
def clash (a b : List Loc × List Loc) : Bool := meets a.2 b.1 || meets a.2 b.2 || meets b.2 a.1
def drawRow (e : List Loc × List Loc) (ah : List Nat) : List (List Loc × List Loc) → Nat → Bool
  | [], _ => true
  | f :: r, i => (!clash f e || memN i ah) && drawRow e ah r (i + 1)
def drawAll (ahs : List (List Nat)) : List (List Loc × List Loc) → List (List Loc × List Loc) → Nat → Bool
  | _, [], _ => true
  | seen, e :: r, j => drawRow e (ahs.getD j []) seen 0 && drawAll ahs (seen ++ [e]) r (j + 1)
def allBelow (k : Nat) : List Nat → Bool
  | [] => true
  | n :: r => Nat.blt n k && allBelow k r
def backwards : List Oper → Nat → Bool
  | [], _ => true
  | o :: r, k => allBelow k (directOf o) && backwards r (k + 1)
def drawOK (ops : List Oper) (acc : List (List Loc × List Loc)) : Bool := backwards ops 0 && drawAll (aheads ops []) [] acc.reverse 0

/-! ### 8. Code and functions -/
def Code.dsts : Code → List Nat
  | .region _ ops _ => ops.toList.filterMap (·.dst)
  | .seq a b => Code.dsts a ++ Code.dsts b
  | .cond _ a b => Code.dsts a ++ Code.dsts b
  | .block _ c => Code.dsts c
  | .loop c => Code.dsts c
  | _ => []
def Code.key : Code → Option Nat
  | .region id _ _ => some id
  | .seq a b => match Code.key a with
    | some k => some k
    | none => Code.key b
  | .cond _ a b => match Code.key a with
    | some k => some k
    | none => Code.key b
  | .block _ c => Code.key c
  | .loop c => Code.key c
  | _ => none
structure LoopAnn where
  ins : List (Nat × Option LTag)
  spec : List FV → List (List FV) → Option (List Bool × FX × List FV × List (List FV))
def getSlots : List (Nat × Option LTag) → Q (List FV)
  | [] => .pure []
  | (s, _) :: r => do
    let v ← Q.get (.slot s)
    let l ← getSlots r
    pure (v :: l)
def killsOf (ins : List (Nat × Option LTag)) : List Nat → St
  | [] => []
  | d :: r => bif (ins.any fun p => Nat.beq p.1 d) then killsOf ins r else (.slot d, .any) :: killsOf ins r
def floop (a : LoopAnn) (dsts : List Nat) : Q (List Bool × FX × St) := do
  let vs ← getSlots a.ins
  let (ds, os, ext) ← subSt (ptrNames vs) a.ins vs []
  match a.spec ds ext with
  | some (asks, e, us, objs) => do
    let back ← backSt a.ins vs os [] us objs
    pure (asks, e, back ++ killsOf a.ins dsts)
  | none => .fail
def condBack (c : Operand) (t : Bool) (st : St) : St := match c with
  | .tmp n => (.slot n, .bool t) :: st
  | _ => st
def fexec (tt : TT) (calls : List (Nat × FSpec)) (loops : List (Nat × LoopAnn)) : Code → St → (FX → St → Prop) → Prop
  | .skip, st, K => K .normal st
  | .region _ ops draw, st, K => frun tt calls ops.toList ops.toList st [] fun st' acc =>
      match draw with
      | false => K .normal st'
      | true => bif drawOK ops.toList acc then K .normal st' else False
  | .seq a b, st, K => fexec tt calls loops a st fun e st' => match e with
    | .normal => fexec tt calls loops b st' K
    | .exit i => K (.exit i) st'
    | .ret => K .ret st'
  | .cond c a b, st, K => match (ev c).run st with
    | some (.bool t) => ifb t (fexec tt calls loops a (condBack c true st) K) (fexec tt calls loops b (condBack c false st) K)
    | _ => False
  | .block id c, st, K => fexec tt calls loops c st fun e st' => match e with
    | .normal => K .normal st'
    | .exit i => bif Nat.beq i id then K .normal st' else K (.exit i) st'
    | .ret => K .ret st'
  | .loop c, st, K => match (Code.key c).bind (look loops) with
    | some a => match (floop a (Code.dsts c)).run st with
      | some (asks, e, ws) => conj asks (K e (ws ++ st))
      | none => False
    | none => False
  | .exit id, st, K => K (.exit id) st
  | .ret, st, K => K .ret st
  | _, _, _ => False
def resultQ (tt : TT) : ResultVar → Q FV
  | .tmp t => Q.get (.slot t)
  | .cell a t => do
    let td ← tdQ tt t
    let v ← Q.get (.slot a)
    let (_, u) ← fload td v
    pure u
def resultsQ (tt : TT) : List ResultVar → Q (List FV)
  | [] => .pure []
  | r :: rs => do
    let v ← resultQ tt r
    let us ← resultsQ tt rs
    pure (v :: us)
def argNames : Nat → List (List FV) → List Nm
  | _, [] => []
  | j, _ :: r => .arg j :: argNames (j + 1) r
def resOf : List FV → FV
  | [v] => v
  | us => .tup us
/-- What a function leaves. -/
def leave (tt : TT) (rs : List ResultVar) (objs : List (List FV)) : Q (FV × List (List FV)) := do
  let vs ← resultsQ tt rs
  let (us, ws) ← freezeAll vs
  let (_, _, ext) ← subSt (argNames 0 objs) [] [] ws
  let r := resOf us
  if plainR r && sameNats (ext.map List.length) (objs.map List.length) then pure (r, ext) else .fail
/-- What a round of a loop leaves. -/
def leaveL (ins : List (Nat × Option LTag)) (objs : List (List FV)) : Q (List FV × List (List FV)) := do
  let vs ← getSlots ins
  let (ds, _, ext) ← subSt (argNames 0 objs) ins vs []
  if sameNats (ext.map List.length) (objs.map List.length) then pure (ds, ext) else .fail
def argIns : Nat → List FV → List (Nat × Option LTag)
  | _, [] => []
  | k, _ :: r => (k, none) :: argIns (k + 1) r
def ffun (tt : TT) (calls : List (Nat × FSpec)) (loops : List (Nat × LoopAnn)) (fn : Func) (args : List FV) (objs : List (List FV)) (post : FV → List (List FV) → Prop) : Prop :=
  match fn.body with
  | some c => fexec tt calls loops c (entry (argIns 0 args) args objs) fun e st =>
    match e with
    | .exit _ => False
    | _ => match (leave tt fn.results.toList objs).run st with
      | some (r, o) => post r o
      | none => False
  | none => False
/-- A round of a loop: what holds behind it. -/
def fround (tt : TT) (calls : List (Nat × FSpec)) (loops : List (Nat × LoopAnn)) (ins : List (Nat × Option LTag)) (c : Code) (vs : List FV) (objs : List (List FV)) (post : FX → List FV → List (List FV) → Prop) : Prop :=
  fexec tt calls loops c (entry ins vs objs) fun e st =>
    match (leaveL ins objs).run st with
    | some (us, o) => post e us o
    | none => False
end Go.Proofs.Fw

set_option autoImplicit false
set_option linter.unusedVariables false
set_option linter.unusedSimpArgs false
namespace Go.Proofs.Fw
open Go

/-! ### 1. Places -/
theorem Nm.beq_iff : ∀ (a b : Nm), Nm.beq a b = true ↔ a = b := by
  intro a
  induction a with
  | op d => intro b; cases b <;> simp [Nm.beq]
  | loc d => intro b; cases b <;> simp [Nm.beq]
  | arg d => intro b; cases b <;> simp [Nm.beq]
  | cell o i ih => intro b; cases b <;> simp [Nm.beq, ih]
theorem Loc.beq_iff (a b : Loc) : Loc.beq a b = true ↔ a = b := by
  cases a <;> cases b <;> simp [Loc.beq, Nm.beq_iff]
theorem Loc.beq_eq (a b : Loc) : Loc.beq a b = decide (a = b) := by
  by_cases h : a = b
  · simp [h, (Loc.beq_iff b b).2 rfl]
  · simp only [h, decide_false]
    cases hb : Loc.beq a b
    · rfl
    · exact absurd ((Loc.beq_iff a b).1 hb) h
theorem get_nil (l : Loc) : St.get [] l = .any := rfl
theorem get_cons (k : Loc) (v : FV) (st : St) (l : Loc) : St.get ((k, v) :: st) l = if k = l then v else st.get l := by
  rw [St.get, Loc.beq_eq]
  by_cases h : k = l <;> simp [h]
theorem get_append (ws st : St) (l : Loc) : (∃ v, (l, v) ∈ ws ∧ St.get (ws ++ st) l = v ∧ St.get (ws ++ st) l = ws.get l) ∨ ((∀ v, (l, v) ∉ ws) ∧ St.get (ws ++ st) l = st.get l) := by
  induction ws with
  | nil => right; simp
  | cons p ws ih =>
    obtain ⟨k, v⟩ := p
    rw [List.cons_append, get_cons, get_cons]
    by_cases h : k = l
    · left; exact ⟨v, by simp [h], by simp [h], by simp [h]⟩
    · simp only [h, if_false]
      rcases ih with ⟨u, hu, h1, h2⟩ | ⟨hn, h1⟩
      · exact .inl ⟨u, by simp [hu], h1, h2⟩
      · refine .inr ⟨fun u hu => ?_, h1⟩
        simp only [List.mem_cons, Prod.mk.injEq] at hu
        rcases hu with ⟨rfl, _⟩ | hu
        · exact h rfl
        · exact hn u hu

/-! ### 2. Lists by kind -/
def LS.tag : LS → LTag
  | .u8 _ => .u8 | .int _ => .int | .str _ => .str | .dest _ => .dest | .sub _ => .sub | .msg _ => .msg | .tlv _ => .tlv | .ptr _ => .ptr
theorem LS.esz_tag (xs : LS) : xs.tag.esz = xs.esz := by cases xs <;> rfl
theorem LS.get_cells (xs : LS) (i : Nat) : (xs.get i).cells.length = xs.esz := by
  cases xs <;> simp [LS.get, FV.cells, LS.esz, Dest.fv, SubT.fv, Msg.fv, Tlv.fv]
theorem LS.esz_pos (xs : LS) : 0 < xs.esz := by cases xs <;> simp [LS.esz]

/-! ### 3. Data in memory -/
def wfI (k : IntKind) (n : Int) : Prop := k.min ≤ n ∧ n ≤ k.max
/-- A value's data, in memory that isn't written: M tells which blocks are. -/
inductive DR (M : Nat → Prop) (w : World) : FV → Value → Prop where
  | any (v : Value) : DR M w .any v
  | int (k : IntKind) (n : Int) (h : wfI k n) : DR M w (.int k n) (.int k n)
  | bool (b : Bool) : DR M w (.bool b) (.bool b)
  | str (s : Bytes) (h : s.length ≤ maxLen) : DR M w (.str s) (.string ⟨s.toArray⟩)
  | nilsl : DR M w .nilsl (.slice none 0 0)
  | fn (f : Nat) : DR M w (.fn f) (.func (.func f) #[] #[])
  | nilfn : DR M w .nilfn .nilFunc
  | nilp : DR M w .nilp (.pointer none)
  | slnil (xs : LS) (A : Option Addr) (cap : Nat) (h : xs.len = 0) (ha : A = none → cap = 0) : DR M w (.sl xs) (.slice A 0 cap)
  | sl (xs : LS) (b off cap : Nat) (vals : Nat → Nat → Value) (hl : xs.len ≤ cap) (hc : cap ≤ maxLen) (hM : ¬ M b) (hb : b < w.heap.size)
      (hcell : ∀ i j c, i < xs.len → (xs.get i).cells[j]? = some c → w.cell? ⟨b, off + i * xs.esz + j, none⟩ = some (vals i j))
      (hrep : ∀ i j c, i < xs.len → (xs.get i).cells[j]? = some c → DR M w c (vals i j)) :
      DR M w (.sl xs) (.slice (some ⟨b, off, none⟩) xs.len cap)

theorem DR.trans {M M' : Nat → Prop} {w w' : World} {c : FV} {v : Value} (h : DR M w c v)
    (hv : ∀ b, ¬ M b → b < w.heap.size → ¬ M' b ∧ w'.heap[b]? = w.heap[b]?) (hs : w.heap.size ≤ w'.heap.size) : DR M' w' c v := by
  induction h with
  | any v => exact .any v
  | int k n h => exact .int k n h
  | bool b => exact .bool b
  | str s h => exact .str s h
  | nilsl => exact .nilsl
  | fn f => exact .fn f
  | nilfn => exact .nilfn
  | nilp => exact .nilp
  | slnil xs A cap h ha => exact .slnil xs A cap h ha
  | sl xs b off cap vals hl hc hM hb hcell hrep ih =>
    obtain ⟨h1, h2⟩ := hv b hM hb
    refine .sl xs b off cap vals hl hc h1 (Nat.lt_of_lt_of_le hb hs) (fun i j c hi hj => ?_) ih
    rw [World.cell?_of_block (w := w) (w' := w') (a := ⟨b, _, none⟩) h2]
    exact hcell i j c hi hj

/-! ### 4. The state in memory -/
structure Mem where
  w : World
  β : Nm → Nat
  ρ : Nm → Value
  X : Nat → Prop
def genOf : FV → Option Nat
  | .ownv g _ => some g
  | .dead g => some g
  | _ => none
def liveB (st : St) (m : Mem) (b : Nat) : Prop :=
  (∃ o n, st.get (.obj o) = .obj n ∧ m.β o = b) ∨ (∃ r g xs, st.get (.row r) = .ownv g xs ∧ (m.ρ r).ownBlock = some b)
def mutB (st : St) (m : Mem) (b : Nat) : Prop := m.X b ∨ liveB st m b
def All2 {α β : Type} (R : α → β → Prop) : List α → List β → Prop
  | [], [] => True
  | x :: xs, y :: ys => R x y ∧ All2 R xs ys
  | _, _ => False
/-- A single cell's value. -/
def R1 (st : St) (m : Mem) : FV → Value → Prop
  | .ptr o off, v => (∃ n, st.get (.obj o) = .obj n) ∧ v = .pointer (some ⟨m.β o, off, none⟩)
  | .aptr o base esz n i, v => (∃ n, st.get (.obj o) = .obj n) ∧ 0 ≤ i ∧ i < n ∧ v = .pointer (some ⟨m.β o, base + i.toNat * esz, none⟩)
  | .own r g, v => (∃ A n c, v = .slice A n c) ∧ (∃ g', genOf (st.get (.row r)) = some g' ∧ g ≤ g') ∧ ∀ xs, st.get (.row r) = .ownv g xs → v = m.ρ r
  | .optr r g i, v => (∃ p, v = .pointer (some p)) ∧ (∃ g', genOf (st.get (.row r)) = some g' ∧ g ≤ g') ∧ ∀ xs, st.get (.row r) = .ownv g xs →
      0 ≤ i ∧ i < xs.len ∧ ∃ b cap, m.ρ r = .slice (some ⟨b, 0, none⟩) xs.len cap ∧ v = .pointer (some ⟨b, i.toNat * xs.esz, none⟩)
  | .eptr x off, v => ∃ (b base : Nat) (vals : Nat → Value), v = .pointer (some ⟨b, base + off, none⟩) ∧ ¬ mutB st m b ∧ b < m.w.heap.size ∧
      ∀ j c, x.cells[j]? = some c → m.w.cell? ⟨b, base + j, none⟩ = some (vals j) ∧ DR (mutB st m) m.w c (vals j)
  | .agg _, _ | .tup _, _ | .obj _, _ | .ownv _ _, _ | .dead _, _ => False
  | c, v => DR (mutB st m) m.w c v
def RA (st : St) (m : Mem) : FV → Value → Prop
  | .agg vs, v => ∃ cs : List Value, v = .agg cs.toArray ∧ All2 (R1 st m) vs cs
  | .tup _, _ => False
  | c, v => R1 st m c v
/-- What a slot holds. -/
def RS (st : St) (m : Mem) : FV → Value → Prop
  | .tup vs, v => ∃ cs : List Value, v = .tuple cs.toArray ∧ All2 (RA st m) vs cs
  | c, v => RA st m c v
/-- A row's element's cell. -/
def CR (st : St) (m : Mem) : FV → Value → Prop
  | .ptr o off, v => (∃ n, st.get (.obj o) = .obj n) ∧ v = .pointer (some ⟨m.β o, off, none⟩)
  | c, v => DR (mutB st m) m.w c v
def ObjOK (st : St) (m : Mem) (o : Nm) (n : Nat) : Prop :=
  ∃ arr ty, m.w.heap[m.β o]? = some (.cells arr ty (0, 0)) ∧ arr.size = n ∧ ∀ i v, arr[i]? = some v → R1 st m (st.get (.cell o i)) v
variable (et : LTag → TypeId)
def RowOK (st : St) (m : Mem) (xs : LS) (v : Value) : Prop :=
  ∃ cs, m.w.ownsRow 0 (et xs.tag) xs.esz v xs.len cs ∧ ∀ i j c, i < xs.len → (xs.get i).cells[j]? = some c → ∃ u, cs[i * xs.esz + j]? = some u ∧ CR st m c u
structure MemOK (st : St) (m : Mem) : Prop where
  objs : ∀ o n, st.get (.obj o) = .obj n → ObjOK st m o n
  rows : ∀ r g xs, st.get (.row r) = .ownv g xs → RowOK et st m xs (m.ρ r)
  oo : ∀ o n o' n', st.get (.obj o) = .obj n → st.get (.obj o') = .obj n' → m.β o = m.β o' → o = o'
  rr : ∀ r g xs r' g' xs' b, st.get (.row r) = .ownv g xs → st.get (.row r') = .ownv g' xs' → (m.ρ r).ownBlock = some b → (m.ρ r').ownBlock = some b → r = r'
  or_ : ∀ o n r g xs, st.get (.obj o) = .obj n → st.get (.row r) = .ownv g xs → (m.ρ r).ownBlock ≠ some (m.β o)
  xlt : ∀ b, m.X b → b < m.w.heap.size
  xl : ∀ b, m.X b → ¬ liveB st m b
structure Inv (st : St) (m : Mem) (a : Act) : Prop where
  mem : MemOK et st m
  slots : ∀ n, RS st m (st.get (.slot n)) (a.tmps.getD n undef)

/-- What stands, from one state to the next. -/
structure Tr (st : St) (m : Mem) (st' : St) (m' : Mem) : Prop where
  obj : ∀ o n, st.get (.obj o) = .obj n → (∃ n', st'.get (.obj o) = .obj n') ∧ m'.β o = m.β o
  gen : ∀ r g, genOf (st.get (.row r)) = some g → ∃ g', genOf (st'.get (.row r)) = some g' ∧ g ≤ g'
  row : ∀ r g xs', st'.get (.row r) = .ownv g xs' → genOf (st.get (.row r)) = some g → ∃ xs, st.get (.row r) = .ownv g xs ∧ xs.len = xs'.len ∧ xs.esz = xs'.esz ∧ m'.ρ r = m.ρ r
  view : ∀ b, ¬ mutB st m b → b < m.w.heap.size → ¬ mutB st' m' b ∧ m'.w.heap[b]? = m.w.heap[b]?
  size : m.w.heap.size ≤ m'.w.heap.size
section
variable {st st' : St} {m m' : Mem}
theorem Tr.dr (t : Tr st m st' m') {c : FV} {v : Value} (h : DR (mutB st m) m.w c v) : DR (mutB st' m') m'.w c v := h.trans t.view t.size
theorem Tr.r1 (t : Tr st m st' m') {c : FV} {v : Value} (h : R1 st m c v) : R1 st' m' c v := by
  cases c with
  | ptr o off =>
    obtain ⟨⟨n, hn⟩, rfl⟩ := h
    obtain ⟨h1, h2⟩ := t.obj o n hn
    exact ⟨h1, by rw [h2]⟩
  | aptr o base esz n i =>
    obtain ⟨⟨n, hn⟩, h0, h1, rfl⟩ := h
    obtain ⟨h2, h3⟩ := t.obj o n hn
    exact ⟨h2, h0, h1, by rw [h3]⟩
  | own r g =>
    obtain ⟨hsh, ⟨g0, hg0, hle⟩, hv⟩ := h
    obtain ⟨g1, hg1, hle1⟩ := t.gen r g0 hg0
    refine ⟨hsh, ⟨g1, hg1, Nat.le_trans hle hle1⟩, fun xs hx => ?_⟩
    have hg : g1 = g := by rw [hx] at hg1; simpa [genOf] using hg1.symm
    have hg' : g0 = g := by omega
    subst hg'
    obtain ⟨ys, hy, _, _, hρ⟩ := t.row r g0 xs hx hg0
    rw [hρ]
    exact hv ys hy
  | optr r g i =>
    obtain ⟨hsh, ⟨g0, hg0, hle⟩, hv⟩ := h
    obtain ⟨g1, hg1, hle1⟩ := t.gen r g0 hg0
    refine ⟨hsh, ⟨g1, hg1, Nat.le_trans hle hle1⟩, fun xs hx => ?_⟩
    have hg : g1 = g := by rw [hx] at hg1; simpa [genOf] using hg1.symm
    have hg' : g0 = g := by omega
    subst hg'
    obtain ⟨ys, hy, hl, he, hρ⟩ := t.row r g0 xs hx hg0
    rw [hρ, ← hl, ← he]
    exact hv ys hy
  | eptr x off =>
    obtain ⟨b, base, vals, hv, hM, hb, hc⟩ := h
    obtain ⟨h1, h2⟩ := t.view b hM hb
    refine ⟨b, base, vals, hv, h1, Nat.lt_of_lt_of_le hb t.size, fun j c hj => ⟨?_, t.dr (hc j c hj).2⟩⟩
    rw [World.cell?_of_block (w := m.w) (w' := m'.w) (a := ⟨b, _, none⟩) h2]
    exact (hc j c hj).1
  | agg _ => exact h
  | tup _ => exact h
  | obj _ => exact h
  | ownv _ _ => exact h
  | dead _ => exact h
  | any => exact t.dr h
  | int k n => exact t.dr h
  | bool b => exact t.dr h
  | str s => exact t.dr h
  | nilsl => exact t.dr h
  | sl xs => exact t.dr h
  | nilp => exact t.dr h
  | fn f => exact t.dr h
  | nilfn => exact t.dr h
theorem All2.imp {α β : Type} {R S : α → β → Prop} (h : ∀ x y, R x y → S x y) : ∀ {xs : List α} {ys : List β}, All2 R xs ys → All2 S xs ys
  | [], [], _ => trivial
  | _ :: _, _ :: _, ⟨h1, h2⟩ => ⟨h _ _ h1, All2.imp h h2⟩
theorem Tr.ra (t : Tr st m st' m') {c : FV} {v : Value} (h : RA st m c v) : RA st' m' c v := by
  cases c with
  | agg vs =>
    obtain ⟨cs, rfl, h⟩ := h
    exact ⟨cs, rfl, h.imp fun _ _ h => t.r1 h⟩
  | tup vs => exact h
  | _ => (simp only [RA] at h ⊢; exact t.r1 h)
theorem Tr.rs (t : Tr st m st' m') {c : FV} {v : Value} (h : RS st m c v) : RS st' m' c v := by
  cases c with
  | tup vs =>
    obtain ⟨cs, rfl, h⟩ := h
    exact ⟨cs, rfl, h.imp fun _ _ h => t.ra h⟩
  | _ => (simp only [RS] at h ⊢; exact t.ra h)
theorem Tr.cr (t : Tr st m st' m') {c : FV} {v : Value} (h : CR st m c v) : CR st' m' c v := by
  cases c with
  | ptr o off =>
    obtain ⟨⟨n, hn⟩, rfl⟩ := h
    obtain ⟨h1, h2⟩ := t.obj o n hn
    exact ⟨h1, by rw [h2]⟩
  | _ => (simp only [CR] at h ⊢; exact t.dr h)
/-- A row that wasn't touched. -/
theorem Tr.rowOK (t : Tr st m st' m') {xs : LS} {v : Value} (h : RowOK et st m xs v) (hb : ∀ b, v.ownBlock = some b → m'.w.heap[b]? = m.w.heap[b]?) : RowOK et st' m' xs v := by
  obtain ⟨cs, ho, hc⟩ := h
  refine ⟨cs, ⟨ho.1, ?_⟩, fun i j c hi hj => ?_⟩
  · rcases ho.2 with h | ⟨g, cap, cur, hv, h0, hg, h1⟩
    · exact .inl h
    · exact .inr ⟨g, cap, cur, hv, h0, by rw [hb g (by simp [hv, Value.ownBlock])]; exact hg, h1⟩
  · obtain ⟨u, hu, h⟩ := hc i j c hi hj
    exact ⟨u, hu, t.cr h⟩
theorem Tr.objOK (t : Tr st m st' m') {o : Nm} {n : Nat} (h : ObjOK st m o n) (hb : m'.w.heap[m.β o]? = m.w.heap[m.β o]?) (hβ : m'.β o = m.β o) (hc : ∀ i, i < n → st'.get (.cell o i) = st.get (.cell o i)) : ObjOK st' m' o n := by
  obtain ⟨arr, ty, h1, h2, h3⟩ := h
  refine ⟨arr, ty, by rw [hβ, hb, h1], h2, fun i v hv => ?_⟩
  have hi : i < n := by rw [← h2]; exact (Array.getElem?_eq_some_iff.1 hv).1
  rw [hc i hi]
  exact t.r1 (h3 i v hv)
end
end Go.Proofs.Fw

set_option autoImplicit false
set_option linter.unusedVariables false
set_option linter.unusedSimpArgs false
namespace Go.Proofs.Fw
open Go
variable {et : LTag → TypeId}

/-! ### 1. From one memory to the next -/
structure Ext (st : St) (m : Mem) (st' : St) (m' : Mem) : Prop where
  os : m'.w.os = m.w.os
  tape : m'.w.tape = m.w.tape
  output : m'.w.output = m.w.output
  size : m.w.heap.size ≤ m'.w.heap.size
  keep : ∀ b, b < m.w.heap.size → ¬ liveB st m b → m'.w.heap[b]? = m.w.heap[b]?
  new : ∀ b, liveB st' m' b → liveB st m b ∨ m.w.heap.size ≤ b
  X : m'.X = m.X
structure Step (st : St) (m : Mem) (st' : St) (m' : Mem) : Prop where
  tr : Tr st m st' m'
  ext : Ext st m st' m'
theorem Tr.refl (st : St) (m : Mem) : Tr st m st m :=
  ⟨fun o n h => ⟨⟨n, h⟩, rfl⟩, fun r g h => ⟨g, h, Nat.le_refl _⟩, fun r g xs h _ => ⟨xs, h, rfl, rfl, rfl⟩, fun b h _ => ⟨h, rfl⟩, Nat.le_refl _⟩
theorem Tr.trans {s0 s1 s2 : St} {m0 m1 m2 : Mem} (h : Tr s0 m0 s1 m1) (k : Tr s1 m1 s2 m2) : Tr s0 m0 s2 m2 := by
  refine ⟨fun o n ho => ?_, fun r g hg => ?_, fun r g xs hx hg => ?_, fun b hb hs => ?_, Nat.le_trans h.size k.size⟩
  · obtain ⟨⟨n1, h1⟩, e1⟩ := h.obj o n ho
    obtain ⟨h2, e2⟩ := k.obj o n1 h1
    exact ⟨h2, e2.trans e1⟩
  · obtain ⟨g1, h1, l1⟩ := h.gen r g hg
    obtain ⟨g2, h2, l2⟩ := k.gen r g1 h1
    exact ⟨g2, h2, Nat.le_trans l1 l2⟩
  · obtain ⟨g1, h1, l1⟩ := h.gen r g hg
    obtain ⟨g2, h2, l2⟩ := k.gen r g1 h1
    have : g2 = g := by rw [hx] at h2; simpa [genOf] using h2.symm
    have : g1 = g := by omega
    subst this
    obtain ⟨ys, hy, a1, a2, a3⟩ := k.row r g1 xs hx h1
    obtain ⟨zs, hz, b1, b2, b3⟩ := h.row r g1 ys hy hg
    exact ⟨zs, hz, b1.trans a1, b2.trans a2, a3.trans b3⟩
  · obtain ⟨h1, e1⟩ := h.view b hb hs
    obtain ⟨h2, e2⟩ := k.view b h1 (Nat.lt_of_lt_of_le hs h.size)
    exact ⟨h2, e2.trans e1⟩
theorem Ext.refl (st : St) (m : Mem) : Ext st m st m := ⟨rfl, rfl, rfl, Nat.le_refl _, fun _ _ _ => rfl, fun _ h => .inl h, rfl⟩
theorem Ext.trans {s0 s1 s2 : St} {m0 m1 m2 : Mem} (h : Ext s0 m0 s1 m1) (k : Ext s1 m1 s2 m2) : Ext s0 m0 s2 m2 := by
  refine ⟨k.os.trans h.os, k.tape.trans h.tape, k.output.trans h.output, Nat.le_trans h.size k.size, fun b hb hn => ?_, fun b hb => ?_, k.X.trans h.X⟩
  · rw [k.keep b (Nat.lt_of_lt_of_le hb h.size) (fun hl => ?_), h.keep b hb hn]
    rcases h.new b hl with h1 | h1
    · exact hn h1
    · omega
  · rcases k.new b hb with h1 | h1
    · exact h.new b h1
    · exact .inr (Nat.le_trans h.size h1)
theorem Step.refl (st : St) (m : Mem) : Step st m st m := ⟨.refl _ _, .refl _ _⟩
theorem Step.trans {s0 s1 s2 : St} {m0 m1 m2 : Mem} (h : Step s0 m0 s1 m1) (k : Step s1 m1 s2 m2) : Step s0 m0 s2 m2 := ⟨h.tr.trans k.tr, h.ext.trans k.ext⟩

/-! ### 2. The same memory -/
/-- All but the slots is the same. -/
def SM (st st' : St) : Prop := ∀ l, (∀ n, l ≠ .slot n) → st'.get l = st.get l
section
variable {st st' : St} {m : Mem}
theorem SM.liveB (h : SM st st') (b : Nat) : liveB st' m b ↔ liveB st m b := by
  simp only [Fw.liveB]
  constructor
  · rintro (⟨o, n, h1, h2⟩ | ⟨r, g, xs, h1, h2⟩)
    · exact .inl ⟨o, n, by rw [← h _ (by simp)]; exact h1, h2⟩
    · exact .inr ⟨r, g, xs, by rw [← h _ (by simp)]; exact h1, h2⟩
  · rintro (⟨o, n, h1, h2⟩ | ⟨r, g, xs, h1, h2⟩)
    · exact .inl ⟨o, n, by rw [h _ (by simp)]; exact h1, h2⟩
    · exact .inr ⟨r, g, xs, by rw [h _ (by simp)]; exact h1, h2⟩
theorem SM.mutB (h : SM st st') (b : Nat) : mutB st' m b ↔ mutB st m b := by simp only [Fw.mutB, h.liveB]
theorem SM.tr (h : SM st st') : Tr st m st' m := by
  refine ⟨fun o n ho => ⟨⟨n, by rw [h _ (by simp)]; exact ho⟩, rfl⟩, fun r g hg => ⟨g, by rw [h _ (by simp)]; exact hg, Nat.le_refl _⟩, fun r g xs hx hg => ⟨xs, by rw [← h _ (by simp)]; exact hx, rfl, rfl, rfl⟩, fun b hb _ => ⟨by rw [h.mutB]; exact hb, rfl⟩, Nat.le_refl _⟩
theorem SM.step (h : SM st st') : Step st m st' m := ⟨h.tr, rfl, rfl, rfl, Nat.le_refl _, fun _ _ _ => rfl, fun b hb => .inl ((h.liveB b).1 hb), rfl⟩
theorem SM.mem (h : SM st st') (k : MemOK et st m) : MemOK et st' m := by
  have e : ∀ {l}, (∀ n, l ≠ .slot n) → st'.get l = st.get l := fun hl => h _ hl
  refine ⟨fun o n ho => ?_, fun r g xs hr => ?_, fun o n o' n' h1 h2 => ?_, fun r g xs r' g' xs' b h1 h2 => ?_, fun o n r g xs h1 h2 => ?_, k.xlt, fun b hb => ?_⟩
  · rw [e (by simp)] at ho
    exact h.tr.objOK (k.objs o n ho) rfl rfl fun i _ => e (by simp)
  · rw [e (by simp)] at hr
    exact h.tr.rowOK et (k.rows r g xs hr) fun _ _ => rfl
  · rw [e (by simp)] at h1 h2; exact k.oo o n o' n' h1 h2
  · rw [e (by simp)] at h1 h2; exact k.rr r g xs r' g' xs' b h1 h2
  · rw [e (by simp)] at h1 h2; exact k.or_ o n r g xs h1 h2
  · rw [h.liveB]; exact k.xl b hb
end
theorem SM.put (d : Option Tmp) (v : FV) (st : St) : SM st (put d v ++ st) := by
  intro l hl
  cases d with
  | none => rfl
  | some d => simp only [Fw.put, List.cons_append, List.nil_append, get_cons]; rw [if_neg (fun e => hl d e.symm)]
theorem getD_put (a : Act) (d : Option Tmp) (v : Value) (n : Nat) (h : ∀ x, d = some x → x < a.tmps.size) :
    (a.put d v).tmps.getD n undef = if d = some n then v else a.tmps.getD n undef := by
  cases d with
  | none => simp [Act.put]
  | some d =>
    have := h d rfl
    by_cases e : d = n
    · subst e
      simp [Act.put, Array.getD_eq_getD_getElem?, this]
    · simp [Act.put, Array.getD_eq_getD_getElem?, e, Array.getElem?_setIfInBounds]
theorem put_size (a : Act) (d : Option Tmp) (v : Value) : (a.put d v).tmps.size = a.tmps.size := by cases d <;> simp [Act.put]
theorem put_defers (a : Act) (d : Option Tmp) (v : Value) : (a.put d v).defers = a.defers := by cases d <;> rfl
section
variable {st : St} {m : Mem} {a : Act}
theorem Inv.put (h : Inv et st m a) (d : Option Tmp) {fv : FV} {v : Value} (hv : RS st m fv v) (hd : ∀ x, d = some x → x < a.tmps.size) :
    Inv et (put d fv ++ st) m (a.put d v) := by
  refine ⟨(SM.put d fv st).mem h.mem, fun n => ?_⟩
  rw [getD_put a d v n hd]
  cases d with
  | none => simpa [Fw.put] using (SM.put none fv st).tr.rs (h.slots n)
  | some d =>
    by_cases e : d = n
    · subst e
      have := (SM.put (some d) fv st).tr.rs hv
      simpa [Fw.put, get_cons] using this
    · have := (SM.put (some d) fv st).tr.rs (h.slots n)
      simpa [Fw.put, get_cons, e] using this
/-- A world with the same heap. -/
theorem Tr.world (w' : World) (hw : w'.heap = m.w.heap) : Tr st m st { m with w := w' } :=
  ⟨fun o n h => ⟨⟨n, h⟩, rfl⟩, fun r g h => ⟨g, h, Nat.le_refl _⟩, fun r g xs h _ => ⟨xs, h, rfl, rfl, rfl⟩, fun b h _ => ⟨h, by rw [hw]⟩, by rw [hw]; exact Nat.le_refl _⟩
theorem Step.world (w' : World) (hw : w'.heap = m.w.heap) (h1 : w'.os = m.w.os) (h2 : w'.tape = m.w.tape) (h3 : w'.output = m.w.output) : Step st m st { m with w := w' } :=
  ⟨Tr.world w' hw, h1, h2, h3, by rw [hw]; exact Nat.le_refl _, fun b _ _ => by rw [hw], fun b hb => .inl hb, rfl⟩
theorem MemOK.world (w' : World) (hw : w'.heap = m.w.heap) (k : MemOK et st m) : MemOK et st { m with w := w' } :=
  ⟨fun o n ho => (Tr.world w' hw).objOK (k.objs o n ho) (by rw [hw]) rfl fun _ _ => rfl,
   fun r g xs hr => (Tr.world w' hw).rowOK et (k.rows r g xs hr) fun _ _ => by rw [hw],
   k.oo, k.rr, k.or_, fun b hb => by rw [hw]; exact k.xlt b hb, k.xl⟩
theorem Inv.world (w' : World) (hw : w'.heap = m.w.heap) (h : Inv et st m a) : Inv et st { m with w := w' } a :=
  ⟨h.mem.world w' hw, fun n => (Tr.world w' hw).rs (h.slots n)⟩
end

/-! ### 3. Writes of cells -/
theorem get_cellsW_other (o : Nm) : ∀ (vs : List FV) (i : Nat) (st : St) (l : Loc), (∀ k, k < vs.length → l ≠ .cell o (i + k)) → St.get (cellsW o i vs ++ st) l = st.get l := by
  intro vs
  induction vs with
  | nil => intro i st l _; rfl
  | cons v vs ih =>
    intro i st l h
    rw [cellsW, List.cons_append, get_cons, if_neg (fun e => h 0 (by simp) (by simpa using e.symm))]
    exact ih (i + 1) st l fun k hk => by have := h (k + 1) (by simpa using hk); rwa [Nat.add_comm k 1, ← Nat.add_assoc] at this
theorem get_cellsW_same (o : Nm) : ∀ (vs : List FV) (i : Nat) (st : St) (k : Nat) (v : FV), vs[k]? = some v → St.get (cellsW o i vs ++ st) (.cell o (i + k)) = v := by
  intro vs
  induction vs with
  | nil => intro i st k v h; simp at h
  | cons u vs ih =>
    intro i st k v h
    rw [cellsW, List.cons_append, get_cons]
    cases k with
    | zero => simp at h; simp [h]
    | succ k =>
      rw [if_neg (by simp)]
      have := ih (i + 1) st k v (by simpa using h)
      rwa [show i + 1 + k = i + (k + 1) from by omega] at this
theorem All2.length {α β : Type} {R : α → β → Prop} : ∀ {xs : List α} {ys : List β}, All2 R xs ys → xs.length = ys.length
  | [], [], _ => rfl
  | _ :: _, _ :: _, ⟨_, h⟩ => by simp [All2.length h]
theorem All2.get {α β : Type} {R : α → β → Prop} : ∀ {xs : List α} {ys : List β}, All2 R xs ys → ∀ {i : Nat} {x : α} {y : β}, xs[i]? = some x → ys[i]? = some y → R x y
  | [], [], _, i, x, y, h, _ => by simp at h
  | _ :: _, _ :: _, ⟨h, _⟩, 0, x, y, h1, h2 => by simp at h1 h2; subst h1; subst h2; exact h
  | _ :: _, _ :: _, ⟨_, h⟩, i + 1, x, y, h1, h2 => All2.get h (i := i) (by simpa using h1) (by simpa using h2)
theorem All2.mk {α β : Type} {R : α → β → Prop} : ∀ {xs : List α} {ys : List β}, xs.length = ys.length → (∀ (i : Nat) (x : α) (y : β), xs[i]? = some x → ys[i]? = some y → R x y) → All2 R xs ys
  | [], [], _, _ => trivial
  | [], _ :: _, h, _ => by simp at h
  | _ :: _, [], h, _ => by simp at h
  | x :: xs, y :: ys, h, k => ⟨k 0 x y rfl rfl, All2.mk (by simpa using h) fun i a b ha hb => k (i + 1) a b (by simpa using ha) (by simpa using hb)⟩
section
variable {st : St} {m : Mem} {a : Act}
/-- A new variable in memory. -/
theorem Inv.newObj (h : Inv et st m a) (d : Nat) (hd : d < a.tmps.size) (vs : List FV) (arr : Array Value) (T : TypeId) (hf : st.get (.obj (.op d)) = .any) (hrep : All2 (R1 st m) vs arr.toList) :
    ∃ m', m'.w = m.w.alloc (.cells arr T) ∧
      Inv et ((.slot d, .ptr (.op d) 0) :: (.obj (.op d), .obj vs.length) :: (cellsW (.op d) 0 vs ++ st)) m' (a.put (some d) (.pointer (some ⟨m.w.heap.size, 0, none⟩))) ∧
      Step st m ((.slot d, .ptr (.op d) 0) :: (.obj (.op d), .obj vs.length) :: (cellsW (.op d) 0 vs ++ st)) m' := by
  let m' : Mem := { m with w := m.w.alloc (.cells arr T), β := fun o => if o = .op d then m.w.heap.size else m.β o }
  let st' : St := (.slot d, .ptr (.op d) 0) :: (.obj (.op d), .obj vs.length) :: (cellsW (.op d) 0 vs ++ st)
  have hobj : ∀ o, st'.get (.obj o) = if o = .op d then .obj vs.length else st.get (.obj o) := by
    intro o
    simp only [st', get_cons]
    rw [if_neg (by simp)]
    by_cases e : o = .op d
    · simp [e]
    · rw [if_neg (fun h => e (by simpa using h.symm)), if_neg e]
      exact get_cellsW_other _ _ _ _ _ fun k _ => by simp
  have hrow : ∀ r, st'.get (.row r) = st.get (.row r) := by
    intro r
    simp only [st', get_cons]
    rw [if_neg (by simp), if_neg (by simp)]
    exact get_cellsW_other _ _ _ _ _ fun k _ => by simp
  have hcell : ∀ o i, o ≠ .op d → st'.get (.cell o i) = st.get (.cell o i) := by
    intro o i ho
    simp only [st', get_cons]
    rw [if_neg (by simp), if_neg (by simp)]
    exact get_cellsW_other _ _ _ _ _ fun k _ => by simp [ho]
  have hcelld : ∀ i v, vs[i]? = some v → st'.get (.cell (.op d) i) = v := by
    intro i v hv
    simp only [st', get_cons]
    rw [if_neg (by simp), if_neg (by simp)]
    have := get_cellsW_same (.op d) vs 0 st i v hv
    rwa [Nat.zero_add] at this
  have hslot : ∀ n, st'.get (.slot n) = if d = n then .ptr (.op d) 0 else st.get (.slot n) := by
    intro n
    simp only [st', get_cons]
    by_cases e : d = n
    · simp [e]
    · rw [if_neg (by simpa using e), if_neg (by simp), if_neg e]
      exact get_cellsW_other _ _ _ _ _ fun k _ => by simp
  have hold : ∀ o n, st.get (.obj o) = .obj n → o ≠ .op d := fun o n ho e => by rw [e, hf] at ho; cases ho
  have hβ : ∀ o, o ≠ .op d → m'.β o = m.β o := fun o ho => by simp [m', ho]
  have hheap : ∀ b, b < m.w.heap.size → m'.w.heap[b]? = m.w.heap[b]? := fun b hb => heap_alloc_old m.w _ b hb
  have hblk : ∀ o n, st.get (.obj o) = .obj n → m.β o < m.w.heap.size := fun o n ho => by
    obtain ⟨arr, ty, h1, _⟩ := h.mem.objs o n ho
    exact (Array.getElem?_eq_some_iff.1 h1).1
  have hrblk : ∀ r g xs b, st.get (.row r) = .ownv g xs → (m.ρ r).ownBlock = some b → b < m.w.heap.size := fun r g xs b hr hb => by
    obtain ⟨cs, ho, _⟩ := h.mem.rows r g xs hr
    exact (ho.lt b hb).2
  have hlive : ∀ b, liveB st' m' b → liveB st m b ∨ m.w.heap.size ≤ b := by
    rintro b (⟨o, n, h1, h2⟩ | ⟨r, g, xs, h1, h2⟩)
    · rw [hobj] at h1
      by_cases e : o = .op d
      · right; simp [m', e] at h2; omega
      · rw [if_neg e] at h1; rw [hβ o e] at h2; exact .inl (.inl ⟨o, n, h1, h2⟩)
    · rw [hrow] at h1; exact .inl (.inr ⟨r, g, xs, h1, h2⟩)
  have t : Tr st m st' m' := by
    refine ⟨fun o n ho => ⟨⟨n, by rw [hobj, if_neg (hold o n ho)]; exact ho⟩, hβ o (hold o n ho)⟩, fun r g hg => ⟨g, by rw [hrow]; exact hg, Nat.le_refl _⟩, fun r g xs hx _ => ⟨xs, by rw [← hrow]; exact hx, rfl, rfl, rfl⟩, fun b hb hs => ⟨?_, hheap b hs⟩, ?_⟩
    · rintro (hx | hl)
      · exact hb (.inl hx)
      · rcases hlive b hl with h1 | h1
        · exact hb (.inr h1)
        · omega
    · simp [m']
  refine ⟨m', rfl, ⟨⟨fun o n ho => ?_, fun r g xs hr => ?_, fun o n o' n' h1 h2 he => ?_, fun r g xs r' g' xs' b h1 h2 => ?_, fun o n r g xs h1 h2 => ?_, fun b hb => ?_, fun b hb => ?_⟩, fun n => ?_⟩, ⟨t, rfl, rfl, rfl, t.size, fun b hb _ => hheap b hb, hlive, rfl⟩⟩
  · change st'.get (.obj o) = .obj n at ho
    rw [hobj] at ho
    by_cases e : o = .op d
    · rw [if_pos e] at ho
      injection ho with ho
      subst e
      refine ⟨arr, T, ?_, ?_, fun i v hv => ?_⟩
      · have : m'.β (.op d) = m.w.heap.size := by simp [m']
        rw [this]; exact heap_alloc_new m.w _
      · rw [← ho, hrep.length, Array.length_toList]
      · have hi : i < vs.length := by rw [hrep.length, Array.length_toList]; exact (Array.getElem?_eq_some_iff.1 hv).1
        change R1 st' m' (st'.get (.cell (.op d) i)) v
        rw [hcelld i vs[i] (by simp [hi])]
        exact t.r1 (hrep.get (i := i) (by simp [hi]) (by simpa using hv))
    · rw [if_neg e] at ho
      exact t.objOK (h.mem.objs o n ho) (hheap _ (hblk o n ho)) (hβ o e) fun i _ => hcell o i e
  · change st'.get (.row r) = _ at hr
    rw [hrow] at hr
    exact t.rowOK et (h.mem.rows r g xs hr) fun b hb => hheap b (hrblk r g xs b hr hb)
  · change st'.get (.obj o) = _ at h1
    change st'.get (.obj o') = _ at h2
    rw [hobj] at h1 h2
    by_cases e : o = .op d <;> by_cases e' : o' = .op d
    · rw [e, e']
    · rw [if_neg e'] at h2
      rw [hβ o' e'] at he
      have := hblk o' n' h2
      simp [m', e] at he
      omega
    · rw [if_neg e] at h1
      rw [hβ o e] at he
      have := hblk o n h1
      simp [m', e'] at he
      omega
    · rw [if_neg e] at h1; rw [if_neg e'] at h2; rw [hβ o e, hβ o' e'] at he
      exact h.mem.oo o n o' n' h1 h2 he
  · change st'.get (.row r) = _ at h1
    change st'.get (.row r') = _ at h2
    rw [hrow] at h1 h2
    exact h.mem.rr r g xs r' g' xs' b h1 h2
  · change st'.get (.obj o) = _ at h1
    change st'.get (.row r) = _ at h2
    rw [hrow] at h2
    rw [hobj] at h1
    by_cases e : o = .op d
    · intro hb
      have := hrblk r g xs _ h2 hb
      simp [m', e] at this
    · rw [if_neg e] at h1
      rw [hβ o e]
      exact h.mem.or_ o n r g xs h1 h2
  · have := h.mem.xlt b hb
    exact Nat.lt_of_lt_of_le this t.size
  · intro hl
    rcases hlive b hl with h1 | h1
    · exact h.mem.xl b hb h1
    · have := h.mem.xlt b hb; omega
  · rw [getD_put a (some d) _ n (fun x hx => by cases hx; exact hd)]
    change RS st' m' (st'.get (.slot n)) _
    rw [hslot]
    by_cases e : d = n
    · subst e
      rw [if_pos rfl, if_pos rfl]
      refine ⟨⟨vs.length, by rw [hobj, if_pos rfl]⟩, ?_⟩
      simp [m']
    · rw [if_neg e, if_neg (by simpa using e)]
      exact t.rs (h.slots n)
end
end Go.Proofs.Fw

set_option autoImplicit false
set_option linter.unusedVariables false
set_option linter.unusedSimpArgs false
namespace Go.Proofs.Fw
open Go
variable {et : LTag → TypeId}
section
variable {st : St} {m : Mem} {a : Act}
theorem objLt (h : MemOK et st m) {o : Nm} {n : Nat} (ho : st.get (.obj o) = .obj n) : m.β o < m.w.heap.size := by
  obtain ⟨arr, ty, h1, _⟩ := h.objs o n ho
  exact (Array.getElem?_eq_some_iff.1 h1).1
theorem rowLt (h : MemOK et st m) {r : Nm} {g : Nat} {xs : LS} (hr : st.get (.row r) = .ownv g xs) {b : Nat} (hb : (m.ρ r).ownBlock = some b) : b < m.w.heap.size := by
  obtain ⟨cs, ho, _⟩ := h.rows r g xs hr
  exact (ho.lt b hb).2
/-- Cells of a variable are written. -/
theorem Inv.setCells (h : Inv et st m a) {o : Nm} {n : Nat} (ho : st.get (.obj o) = .obj n) (off : Nat) (vs : List FV) (us : List Value) (hrep : All2 (R1 st m) vs us) (w' : World)
    (arr arr' : Array Value) (ty : TypeId) (harr : m.w.heap[m.β o]? = some (.cells arr ty (0, 0))) (harr' : w'.heap[m.β o]? = some (.cells arr' ty (0, 0))) (hsz : arr'.size = arr.size) (hfit : off + vs.length ≤ n)
    (hin : ∀ i, i < us.length → arr'[off + i]? = us[i]?) (hout : ∀ i, (i < off ∨ off + us.length ≤ i) → arr'[i]? = arr[i]?)
    (hoth : ∀ b, b ≠ m.β o → w'.heap[b]? = m.w.heap[b]?) (hsize : w'.heap.size = m.w.heap.size) (h1 : w'.os = m.w.os) (h2 : w'.tape = m.w.tape) (h3 : w'.output = m.w.output) :
    Inv et (cellsW o off vs ++ st) { m with w := w' } a ∧ Step st m (cellsW o off vs ++ st) { m with w := w' } := by
  have hobj : ∀ p, St.get (cellsW o off vs ++ st) (.obj p) = st.get (.obj p) := fun p => get_cellsW_other _ _ _ _ _ fun k _ => by simp
  have hrow : ∀ p, St.get (cellsW o off vs ++ st) (.row p) = st.get (.row p) := fun p => get_cellsW_other _ _ _ _ _ fun k _ => by simp
  have hslot : ∀ p, St.get (cellsW o off vs ++ st) (.slot p) = st.get (.slot p) := fun p => get_cellsW_other _ _ _ _ _ fun k _ => by simp
  have hlive : ∀ b, liveB (cellsW o off vs ++ st) { m with w := w' } b ↔ liveB st m b := by intro b; simp only [liveB, hobj, hrow]
  have hl : liveB st m (m.β o) := .inl ⟨o, n, ho, rfl⟩
  have t : Tr st m (cellsW o off vs ++ st) { m with w := w' } := by
    refine ⟨fun p k hp => ⟨⟨k, by rw [hobj]; exact hp⟩, rfl⟩, fun r g hg => ⟨g, by rw [hrow]; exact hg, Nat.le_refl _⟩, fun r g xs hx _ => ⟨xs, by rw [← hrow]; exact hx, rfl, rfl, rfl⟩, fun b hb hs => ⟨?_, ?_⟩, by rw [hsize]; exact Nat.le_refl _⟩
    · simp only [mutB, hlive]; exact hb
    · exact hoth b fun e => hb (.inr (e ▸ hl))
  refine ⟨⟨⟨fun p k hp => ?_, fun r g xs hr => ?_, fun p k p' k' e1 e2 => ?_, fun r g xs r' g' xs' b e1 e2 => ?_, fun p k r g xs e1 e2 => ?_, fun b hb => ?_, fun b hb => ?_⟩, fun p => ?_⟩, t, h1, h2, h3, t.size, fun b hb hn => ?_, fun b hb => .inl ((hlive b).1 hb), rfl⟩
  · rw [hobj] at hp
    by_cases e : p = o
    · subst e
      obtain ⟨arr0, ty0, e1, e2, e3⟩ := h.mem.objs p k hp
      rw [harr] at e1
      cases e1
      have hnk : n = k := by rw [ho] at hp; cases hp; rfl
      subst hnk
      refine ⟨arr', ty, harr', by rw [hsz, e2], fun i v hv => ?_⟩
      by_cases hi : off ≤ i ∧ i < off + vs.length
      · have hk : vs[i - off]? = some vs[i - off] := by simp [show i - off < vs.length from by omega]
        have hg := get_cellsW_same p vs off st (i - off) _ hk
        rw [show off + (i - off) = i from by omega] at hg
        rw [hg]
        have hu := hin (i - off) (by rw [← hrep.length]; omega)
        rw [show off + (i - off) = i from by omega, hv] at hu
        exact t.r1 (hrep.get hk hu.symm)
      · rw [get_cellsW_other _ _ _ _ _ (fun k hk => by simp; omega)]
        rw [hout i (by rw [← hrep.length]; omega)] at hv
        exact t.r1 (e3 i v hv)
    · exact t.objOK (h.mem.objs p k hp) (hoth _ fun e' => e (h.mem.oo p k o n hp ho e')) rfl fun i _ => get_cellsW_other _ _ _ _ _ fun k _ => by simp [e]
  · rw [hrow] at hr
    exact t.rowOK et (h.mem.rows r g xs hr) fun b hb => hoth b fun e => h.mem.or_ o n r g xs ho hr (by rw [hb, e])
  · rw [hobj] at e1 e2; exact h.mem.oo p k p' k' e1 e2
  · rw [hrow] at e1 e2; exact h.mem.rr r g xs r' g' xs' b e1 e2
  · rw [hobj] at e1; rw [hrow] at e2; exact h.mem.or_ p k r g xs e1 e2
  · change b < w'.heap.size; rw [hsize]; exact h.mem.xlt b hb
  · rw [hlive]; exact h.mem.xl b hb
  · rw [hslot]; exact t.rs (h.slots p)
  · exact hoth b fun e => hn (e ▸ hl)

/-- A row is made, perhaps out of another one, which falls away. -/
theorem Inv.rowNew (h : Inv et st m a) (d : Nat) (hd : d < a.tmps.size) (r : Nm) (g' : Nat) (zs : LS) (v' : Value) (w' : World) (src : Option (Nm × Nat × LS)) (ws : St)
    (hgen : ∀ g, genOf (st.get (.row r)) = some g → g < g')
    (hsrc : ∀ r0 g0 xs0, src = some (r0, g0, xs0) → st.get (.row r0) = .ownv g0 xs0)
    (hws : ∀ l, (∀ n, l ≠ .slot n) → l ≠ .row r → St.get (ws ++ st) l = (match src with | some (r0, g0, _) => if l = .row r0 then .dead g0 else st.get l | none => st.get l))
    (hws2 : St.get (ws ++ st) (.row r) = .ownv g' zs)
    (hws3 : ∀ n, St.get (ws ++ st) (.slot n) = if d = n then .own r g' else st.get (.slot n))
    (hkeep : ∀ b, b < m.w.heap.size → (∀ r0 g0 xs0, src = some (r0, g0, xs0) → (m.ρ r0).ownBlock ≠ some b) → w'.heap[b]? = m.w.heap[b]?)
    (hblk : ∀ b, v'.ownBlock = some b → (∃ r0 g0 xs0, src = some (r0, g0, xs0) ∧ (m.ρ r0).ownBlock = some b) ∨ m.w.heap.size ≤ b)
    (hrowOK : ∃ cs, w'.ownsRow 0 (et zs.tag) zs.esz v' zs.len cs ∧ ∀ i j c, i < zs.len → (zs.get i).cells[j]? = some c → ∃ u, cs[i * zs.esz + j]? = some u ∧ CR st m c u)
    (hsize : m.w.heap.size ≤ w'.heap.size) (h1 : w'.os = m.w.os) (h2 : w'.tape = m.w.tape) (h3 : w'.output = m.w.output) :
    ∃ m', m'.w = w' ∧ Inv et (ws ++ st) m' (a.put (some d) v') ∧ Step st m (ws ++ st) m' := by
  let m' : Mem := { m with w := w', ρ := fun p => if p = r then v' else m.ρ p }
  have hobj : ∀ p, St.get (ws ++ st) (.obj p) = st.get (.obj p) := fun p => by
    have := (hws (.obj p) (by simp) (by simp))
    rw [this]
    cases src with
    | none => rfl
    | some q => obtain ⟨r0, g0, xs0⟩ := q; simp
  have hcell : ∀ p i, St.get (ws ++ st) (.cell p i) = st.get (.cell p i) := fun p i => by
    have := (hws (.cell p i) (by simp) (by simp))
    rw [this]
    cases src with
    | none => rfl
    | some q => obtain ⟨r0, g0, xs0⟩ := q; simp
  have hrow : ∀ p g xs, p ≠ r → St.get (ws ++ st) (.row p) = .ownv g xs → st.get (.row p) = .ownv g xs ∧ ∀ r0 g0 xs0, src = some (r0, g0, xs0) → p ≠ r0 := fun p g xs hp hg => by
    have := (hws (.row p) (by simp) (by simpa using hp))
    rw [this] at hg
    cases src with
    | none => exact ⟨hg, by simp⟩
    | some q =>
      obtain ⟨r0, g0, xs0⟩ := q
      simp only at hg
      by_cases e : p = r0
      · rw [if_pos (by rw [e])] at hg; cases hg
      · rw [if_neg (by simpa using e)] at hg
        exact ⟨hg, fun r1 g1 xs1 hq => by cases hq; exact e⟩
  have hρ : ∀ p, p ≠ r → m'.ρ p = m.ρ p := fun p hp => by simp [m', hp]
  have hρr : m'.ρ r = v' := by simp [m']
  have hlive : ∀ b, liveB (ws ++ st) m' b → liveB st m b ∨ m.w.heap.size ≤ b := by
    rintro b (⟨o, n, e1, e2⟩ | ⟨p, g, xs, e1, e2⟩)
    · rw [hobj] at e1; exact .inl (.inl ⟨o, n, e1, e2⟩)
    · by_cases e : p = r
      · subst e
        rw [hρr] at e2
        rcases hblk b e2 with ⟨r0, g0, xs0, e3, e4⟩ | e3
        · exact .inl (.inr ⟨r0, g0, xs0, hsrc r0 g0 xs0 e3, e4⟩)
        · exact .inr e3
      · rw [hρ p e] at e2
        exact .inl (.inr ⟨p, g, xs, (hrow p g xs e e1).1, e2⟩)
  have hsrcl : ∀ r0 g0 xs0 b, src = some (r0, g0, xs0) → (m.ρ r0).ownBlock = some b → liveB st m b := fun r0 g0 xs0 b e1 e2 => .inr ⟨r0, g0, xs0, hsrc _ _ _ e1, e2⟩
  have t : Tr st m (ws ++ st) m' := by
    refine ⟨fun o n ho => ⟨⟨n, by rw [hobj]; exact ho⟩, rfl⟩, fun p g hg => ?_, fun p g xs hx hg => ?_, fun b hb hs => ⟨?_, ?_⟩, hsize⟩
    · by_cases e : p = r
      · subst e; exact ⟨g', by rw [hws2]; rfl, Nat.le_of_lt (hgen g hg)⟩
      · have := (hws (.row p) (by simp) (by simpa using e))
        rw [this]
        cases src with
        | none => exact ⟨g, hg, Nat.le_refl _⟩
        | some q =>
          obtain ⟨r0, g0, xs0⟩ := q
          simp only
          by_cases e' : p = r0
          · rw [if_pos (by rw [e'])]
            have := hsrc r0 g0 xs0 rfl
            rw [e', this] at hg
            simp [genOf] at hg
            exact ⟨g0, rfl, by omega⟩
          · rw [if_neg (by simpa using e')]; exact ⟨g, hg, Nat.le_refl _⟩
    · by_cases e : p = r
      · subst e
        rw [hws2] at hx
        cases hx
        have := hgen _ hg
        omega
      · exact ⟨xs, (hrow p g xs e hx).1, rfl, rfl, hρ p e⟩
    · rintro (hx | hl)
      · exact hb (.inl hx)
      · rcases hlive b hl with e | e
        · exact hb (.inr e)
        · omega
    · exact hkeep b hs fun r0 g0 xs0 e1 e2 => hb (.inr (hsrcl r0 g0 xs0 b e1 e2))
  have hother : ∀ p g xs, p ≠ r → St.get (ws ++ st) (.row p) = .ownv g xs → ∀ b, (m.ρ p).ownBlock = some b → w'.heap[b]? = m.w.heap[b]? := fun p g xs hp hg b hb => by
    obtain ⟨e1, e2⟩ := hrow p g xs hp hg
    exact hkeep b (rowLt h.mem e1 hb) fun r0 g0 xs0 e3 e4 => e2 r0 g0 xs0 e3 (h.mem.rr p g xs r0 g0 xs0 b e1 (hsrc _ _ _ e3) hb e4)
  have hnb : ∀ b, v'.ownBlock = some b → ∀ p g xs, p ≠ r → St.get (ws ++ st) (.row p) = .ownv g xs → (m.ρ p).ownBlock ≠ some b := fun b hb p g xs hp hg hb2 => by
    obtain ⟨e1, e2⟩ := hrow p g xs hp hg
    rcases hblk b hb with ⟨r0, g0, xs0, e3, e4⟩ | e3
    · exact e2 r0 g0 xs0 e3 (h.mem.rr p g xs r0 g0 xs0 b e1 (hsrc _ _ _ e3) hb2 e4)
    · have := rowLt h.mem e1 hb2; omega
  refine ⟨m', rfl, ⟨⟨fun o n ho => ?_, fun p g xs hp => ?_, fun p k p' k' e1 e2 => ?_, fun p g xs p' g1 xs' b e1 e2 e3 e4 => ?_, fun o k p g xs e1 e2 => ?_, fun b hb => ?_, fun b hb => ?_⟩, fun n => ?_⟩, t, h1, h2, h3, hsize, fun b hb hn => ?_, hlive, rfl⟩
  · rw [hobj] at ho
    refine t.objOK (h.mem.objs o n ho) ?_ rfl fun i _ => hcell o i
    exact hkeep _ (objLt h.mem ho) fun r0 g0 xs0 e1 e2 => h.mem.or_ o n r0 g0 xs0 ho (hsrc _ _ _ e1) e2
  · by_cases e : p = r
    · subst e
      rw [hws2] at hp
      cases hp
      rw [hρr]
      obtain ⟨cs, e1, e2⟩ := hrowOK
      exact ⟨cs, e1, fun i j c hi hj => let ⟨u, e3, e4⟩ := e2 i j c hi hj; ⟨u, e3, t.cr e4⟩⟩
    · rw [hρ p e]
      exact t.rowOK et (h.mem.rows p g xs (hrow p g xs e hp).1) (hother p g xs e hp)
  · rw [hobj] at e1 e2; exact h.mem.oo p k p' k' e1 e2
  · by_cases a1 : p = r <;> by_cases a2 : p' = r
    · rw [a1, a2]
    · subst a1
      rw [hρr] at e3
      rw [hρ p' a2] at e4
      exact absurd e4 (hnb b e3 p' g1 xs' a2 e2)
    · subst a2
      rw [hρr] at e4
      rw [hρ p a1] at e3
      exact absurd e3 (hnb b e4 p g xs a1 e1)
    · rw [hρ p a1] at e3; rw [hρ p' a2] at e4
      exact h.mem.rr p g xs p' g1 xs' b (hrow p g xs a1 e1).1 (hrow p' g1 xs' a2 e2).1 e3 e4
  · rw [hobj] at e1
    by_cases a1 : p = r
    · subst a1
      rw [hρr]
      intro hb
      rcases hblk _ hb with ⟨r0, g0, xs0, e3, e4⟩ | e3
      · exact h.mem.or_ o k r0 g0 xs0 e1 (hsrc _ _ _ e3) e4
      · have : m.β o < m.w.heap.size := objLt h.mem e1
        have e3' : m.w.heap.size ≤ m.β o := e3
        omega
    · rw [hρ p a1]; exact h.mem.or_ o k p g xs e1 (hrow p g xs a1 e2).1
  · exact Nat.lt_of_lt_of_le (h.mem.xlt b hb) hsize
  · intro hl
    rcases hlive b hl with e | e
    · exact h.mem.xl b hb e
    · have := h.mem.xlt b hb; omega
  · rw [getD_put a (some d) _ n (fun x hx => by cases hx; exact hd), hws3]
    by_cases e : d = n
    · subst e
      rw [if_pos rfl, if_pos rfl]
      refine ⟨?_, ⟨g', by rw [hws2]; rfl, Nat.le_refl _⟩, fun xs _ => hρr.symm⟩
      obtain ⟨cs, e1, _⟩ := hrowOK
      rcases e1.2 with ⟨e2, _⟩ | ⟨g0, cap, cur, e2, _⟩
      · exact ⟨_, _, _, e2⟩
      · exact ⟨_, _, _, e2⟩
    · rw [if_neg e, if_neg (by simpa using e)]
      exact t.rs (h.slots n)
  · exact hkeep b hb fun r0 g0 xs0 e1 e2 => hn (hsrcl r0 g0 xs0 b e1 e2)

/-- A row's elements are written. -/
theorem Inv.rowSet (h : Inv et st m a) {r : Nm} {g : Nat} {xs : LS} (hr : st.get (.row r) = .ownv g xs) (ys : LS) (hl : xs.len = ys.len) (he : xs.esz = ys.esz) (w' : World)
    (hrowOK : ∃ cs, w'.ownsRow 0 (et ys.tag) ys.esz (m.ρ r) ys.len cs ∧ ∀ i j c, i < ys.len → (ys.get i).cells[j]? = some c → ∃ u, cs[i * ys.esz + j]? = some u ∧ CR st m c u)
    (hoth : ∀ b, (m.ρ r).ownBlock ≠ some b → w'.heap[b]? = m.w.heap[b]?) (hsize : w'.heap.size = m.w.heap.size) (h1 : w'.os = m.w.os) (h2 : w'.tape = m.w.tape) (h3 : w'.output = m.w.output) :
    Inv et ((.row r, .ownv g ys) :: st) { m with w := w' } a ∧ Step st m ((.row r, .ownv g ys) :: st) { m with w := w' } := by
  have hg : ∀ l, l ≠ .row r → St.get ((.row r, .ownv g ys) :: st) l = st.get l := fun l hl => by rw [get_cons, if_neg (fun e => hl e.symm)]
  have hgr : St.get ((.row r, .ownv g ys) :: st) (.row r) = .ownv g ys := by rw [get_cons, if_pos rfl]
  have hrow : ∀ p g1 zs, St.get ((.row r, .ownv g ys) :: st) (.row p) = .ownv g1 zs → ∃ zs', st.get (.row p) = .ownv g1 zs' ∧ zs'.len = zs.len ∧ zs'.esz = zs.esz ∧ (p ≠ r → zs' = zs) := fun p g1 zs hp => by
    by_cases e : p = r
    · subst e; rw [hgr] at hp; cases hp; exact ⟨xs, hr, hl, he, fun e => absurd rfl e⟩
    · rw [hg _ (by simpa using e)] at hp; exact ⟨zs, hp, rfl, rfl, fun _ => rfl⟩
  have hlive : ∀ b, liveB ((.row r, .ownv g ys) :: st) { m with w := w' } b → liveB st m b := by
    rintro b (⟨o, n, e1, e2⟩ | ⟨p, g1, zs, e1, e2⟩)
    · rw [hg _ (by simp)] at e1; exact .inl ⟨o, n, e1, e2⟩
    · obtain ⟨zs', e3, _⟩ := hrow p g1 zs e1; exact .inr ⟨p, g1, zs', e3, e2⟩
  have hl0 : ∀ b, (m.ρ r).ownBlock = some b → liveB st m b := fun b hb => .inr ⟨r, g, xs, hr, hb⟩
  have t : Tr st m ((.row r, .ownv g ys) :: st) { m with w := w' } := by
    refine ⟨fun o n ho => ⟨⟨n, by rw [hg _ (by simp)]; exact ho⟩, rfl⟩, fun p g1 hg1 => ?_, fun p g1 zs hx _ => ?_, fun b hb hs => ⟨?_, ?_⟩, by rw [hsize]; exact Nat.le_refl _⟩
    · by_cases e : p = r
      · subst e; rw [hr] at hg1; exact ⟨g1, by rw [hgr]; exact hg1, Nat.le_refl _⟩
      · exact ⟨g1, by rw [hg _ (by simpa using e)]; exact hg1, Nat.le_refl _⟩
    · obtain ⟨zs', e1, e2, e3, _⟩ := hrow p g1 zs hx; exact ⟨zs', e1, e2, e3, rfl⟩
    · rintro (hx | hx)
      · exact hb (.inl hx)
      · exact hb (.inr (hlive b hx))
    · exact hoth b fun e => hb (.inr (hl0 b e))
  refine ⟨⟨⟨fun o n ho => ?_, fun p g1 zs hp => ?_, fun p k p' k' e1 e2 => ?_, fun p g1 zs p' g2 zs' b e1 e2 e3 e4 => ?_, fun o k p g1 zs e1 e2 => ?_, fun b hb => ?_, fun b hb => ?_⟩, fun n => ?_⟩, t, h1, h2, h3, t.size, fun b hb hn => ?_, fun b hb => .inl (hlive b hb), rfl⟩
  · rw [hg _ (by simp)] at ho
    exact t.objOK (h.mem.objs o n ho) (hoth _ (h.mem.or_ o n r g xs ho hr)) rfl fun i _ => hg _ (by simp)
  · by_cases e : p = r
    · subst e; rw [hgr] at hp; cases hp
      obtain ⟨cs, e1, e2⟩ := hrowOK
      exact ⟨cs, e1, fun i j c hi hj => let ⟨u, e3, e4⟩ := e2 i j c hi hj; ⟨u, e3, t.cr e4⟩⟩
    · rw [hg _ (by simpa using e)] at hp
      exact t.rowOK et (h.mem.rows p g1 zs hp) fun b hb => hoth b fun e' => e (h.mem.rr p g1 zs r g xs b hp hr hb e')
  · rw [hg _ (by simp)] at e1 e2; exact h.mem.oo p k p' k' e1 e2
  · obtain ⟨_, a1, _⟩ := hrow p g1 zs e1
    obtain ⟨_, a2, _⟩ := hrow p' g2 zs' e2
    exact h.mem.rr _ _ _ _ _ _ b a1 a2 e3 e4
  · rw [hg _ (by simp)] at e1
    obtain ⟨_, a2, _⟩ := hrow p g1 zs e2
    exact h.mem.or_ _ _ _ _ _ e1 a2
  · change b < w'.heap.size; rw [hsize]; exact h.mem.xlt b hb
  · exact fun hx => h.mem.xl b hb (hlive b hx)
  · rw [hg _ (by simp)]; exact t.rs (h.slots n)
  · exact hoth b fun e => hn (hl0 b e)

/-- A row is written no more. -/
theorem Inv.rowDead (h : Inv et st m a) {r : Nm} {g : Nat} {xs : LS} (hr : st.get (.row r) = .ownv g xs) :
    Inv et ((.row r, .dead g) :: st) m a ∧ Step st m ((.row r, .dead g) :: st) m ∧ ∀ b, (m.ρ r).ownBlock = some b → ¬ mutB ((.row r, .dead g) :: st) m b := by
  have hg : ∀ l, l ≠ .row r → St.get ((.row r, .dead g) :: st) l = st.get l := fun l hl => by rw [get_cons, if_neg (fun e => hl e.symm)]
  have hgr : St.get ((.row r, .dead g) :: st) (.row r) = .dead g := by rw [get_cons, if_pos rfl]
  have hrow : ∀ p g1 zs, St.get ((.row r, .dead g) :: st) (.row p) = .ownv g1 zs → st.get (.row p) = .ownv g1 zs ∧ p ≠ r := fun p g1 zs hp => by
    by_cases e : p = r
    · subst e; rw [hgr] at hp; cases hp
    · rw [hg _ (by simpa using e)] at hp; exact ⟨hp, e⟩
  have hlive : ∀ b, liveB ((.row r, .dead g) :: st) m b → liveB st m b := by
    rintro b (⟨o, n, e1, e2⟩ | ⟨p, g1, zs, e1, e2⟩)
    · rw [hg _ (by simp)] at e1; exact .inl ⟨o, n, e1, e2⟩
    · exact .inr ⟨p, g1, zs, (hrow p g1 zs e1).1, e2⟩
  have t : Tr st m ((.row r, .dead g) :: st) m := by
    refine ⟨fun o n ho => ⟨⟨n, by rw [hg _ (by simp)]; exact ho⟩, rfl⟩, fun p g1 hg1 => ?_, fun p g1 zs hx _ => ⟨zs, (hrow p g1 zs hx).1, rfl, rfl, rfl⟩, fun b hb hs => ⟨?_, rfl⟩, Nat.le_refl _⟩
    · by_cases e : p = r
      · subst e; rw [hr] at hg1; simp [genOf] at hg1; exact ⟨g, by rw [hgr]; rfl, by omega⟩
      · exact ⟨g1, by rw [hg _ (by simpa using e)]; exact hg1, Nat.le_refl _⟩
    · rintro (hx | hx)
      · exact hb (.inl hx)
      · exact hb (.inr (hlive b hx))
  refine ⟨⟨⟨fun o n ho => ?_, fun p g1 zs hp => ?_, fun p k p' k' e1 e2 => ?_, fun p g1 zs p' g2 zs' b e1 e2 e3 e4 => ?_, fun o k p g1 zs e1 e2 => ?_, h.mem.xlt, fun b hb hx => h.mem.xl b hb (hlive b hx)⟩, fun n => ?_⟩, ⟨t, rfl, rfl, rfl, Nat.le_refl _, fun _ _ _ => rfl, fun b hb => .inl (hlive b hb), rfl⟩, fun b hb hx => ?_⟩
  · rw [hg _ (by simp)] at ho
    exact t.objOK (h.mem.objs o n ho) rfl rfl fun i _ => hg _ (by simp)
  · exact t.rowOK et (h.mem.rows p g1 zs (hrow p g1 zs hp).1) fun _ _ => rfl
  · rw [hg _ (by simp)] at e1 e2; exact h.mem.oo p k p' k' e1 e2
  · exact h.mem.rr _ _ _ _ _ _ b (hrow p g1 zs e1).1 (hrow p' g2 zs' e2).1 e3 e4
  · rw [hg _ (by simp)] at e1; exact h.mem.or_ _ _ _ _ _ e1 (hrow p g1 zs e2).1
  · rw [hg _ (by simp)]; exact t.rs (h.slots n)
  · rcases hx with hx | ⟨o, n, e1, e2⟩ | ⟨p, g1, zs, e1, e2⟩
    · exact h.mem.xl b hx (.inr ⟨r, g, xs, hr, hb⟩)
    · rw [hg _ (by simp)] at e1
      exact h.mem.or_ o n r g xs e1 hr (by rw [e2]; exact hb)
    · obtain ⟨a1, a2⟩ := hrow p g1 zs e1
      exact a2 (h.mem.rr p g1 zs r g xs b a1 hr e2 hb)
end
end Go.Proofs.Fw
