/- The interpreter of the code by its content, and its soundness (part 1 of some). Conditions: none beyond those that each theorem states. -/
import Derived.Below
import Derived.Calls
import Derived.Laws.BytesArg
import Derived.Laws.Slices
import Derived.Lib.Strings
import Derived.Orders
import Derived.WalkKit
namespace Go.Den

/-- Abstract values. `sl k z l`: a slice by its content (elements of z cells each); k: 0 no word on its capacity, 1 the capacity is the length, k ≥ 2: it may be appended to while the table says that k's end is l's. `rm k z n`: a slice of n elements of which nothing is said, that may be cut down to none. -/
inductive D where
  | v (x : Value)
  | agg (cs : List D)
  | tup (vs : List D)
  | sl (k z : Nat) (l : List D)
  | ref (s off len : Nat)
  | ptr (s off : Nat)
  | eptr (cs : List D) (off : Nat)
  | gptr (g off : Nat)
  | fn (f : FuncId) (caps : List D)
  | mp (m : Nat)
  | rm (k z n : Nat)
  | dead
  deriving Inhabited

def D.cells : D → List D
  | .agg cs => cs
  | d => [d]

/-- One cell's value that is known. -/
def D.cellB : D → Bool
  | .agg _ | .tup _ | .dead | .rm .. => false
  | _ => true

def flatB : Value → Bool
  | .bool _ | .int .. | .string _ | .nilFunc | .nilIface | .pointer none | .map none => true
  | _ => false

inductive TK where
  | bool | int (k : IntKind) | str | slice (e : TypeId) | ptr (e : TypeId) | struct | arr (n : Nat) (e : TypeId) | map (k e : TypeId) | other

structure TI where
  kind : TK
  size : Nat
  bytes : Nat
  agg : Bool
  fields : List (Nat × Nat)
  zero : List D

inductive CMode where
  | pure | own (j : Nat) | thaw | raw | snap

structure FI where
  np : Nat
  nt : Nat
  res : List ResultVar
  body : Code
  mode : Nat → CMode
  keep : Nat → Option (List Nat)

structure Obj where
  ty : TypeId
  cells : List D

structure CS where
  hp : Nat → Option Obj
  tk : Nat → Option Nat
  nx : Nat

def CS.fresh : CS := ⟨fun _ => none, fun _ => none, 2⟩

structure Env where
  ty : TypeId → Option TI
  fn : FuncId → Option FI
  gl : Nat → Option (List D)
  mp : Nat → ByteArray → Option Value
  eqOk : TypeId → Option (List TK)
  orc : FuncId → Option (List D → CS → Option (D × CS))
  ext : FuncId → Option (List D → Option D)

structure St where
  sl : List D
  cs : CS

def upd {α : Type} (f : Nat → Option α) (s : Nat) (x : Option α) : Nat → Option α := fun t => if t = s then x else f t

mutual
def D.norm : D → D
  | .v x => .v x
  | .agg cs => .agg (D.normL cs)
  | .tup vs => .tup (D.normL vs)
  | .sl _ z l => .sl 0 z (D.normL l)
  | .fn f caps => .fn f (D.normL caps)
  | .mp m => .mp m
  | .gptr g o => .gptr g o
  | _ => .dead
def D.normL : List D → List D
  | [] => []
  | d :: ds => d.norm :: D.normL ds
end

def ofCell (x : Value) : D := match x with
  | .slice none 0 0 => .sl 1 1 []
  | x => if flatB x then .v x else .dead

/-- A constant operand, at the type of what it is assigned to. -/
def ofConst (z : Nat) (c : Value) : D := match c with
  | .slice none 0 0 => .sl 1 z []
  | x => if flatB x then .v x else .dead

def St.opd (s : St) (z : Nat) : Operand → D
  | .tmp t => s.sl.getD t .dead
  | .const c => ofConst z c
  | .global g => .gptr g 0
  | .func f => .fn f []

def St.put (s : St) (dst : Option Tmp) (d : D) : St := match dst with
  | some t => { s with sl := s.sl.set t d }
  | none => s

def dload (i : TI) (cs : List D) (off : Nat) : Option D :=
  if i.agg then (if off + i.size ≤ cs.length then some (.agg ((cs.drop off).take i.size)) else none) else cs[off]?

def putCells : List D → Nat → List D → List D
  | cs, _, [] => cs
  | cs, off, x :: xs => putCells (cs.set off x) (off + 1) xs

def CS.put (c : CS) (s : Nat) (o : Obj) : CS := { c with hp := upd c.hp s (some o) }
def CS.new (c : CS) (o : Obj) : CS := { c with hp := upd c.hp c.nx (some o), nx := c.nx + 1 }

/-! Operations on numbers, bools, strings. -/
def intOp (op : BinOp) (k : IntKind) (a b : Int) : Option Value :=
  match op with
  | .add => some (.int k (k.wrap (a + b)))
  | .sub => some (.int k (k.wrap (a - b)))
  | .mul => some (.int k (k.wrap (a * b)))
  | .quo => if b = 0 then none else some (.int k (k.wrap (a.tdiv b)))
  | .rem => if b = 0 then none else some (.int k (a.tmod b))
  | .and => some (.int k (k.wrap (BitVec.ofInt k.bits a &&& BitVec.ofInt k.bits b).toNat))
  | .or => some (.int k (k.wrap (BitVec.ofInt k.bits a ||| BitVec.ofInt k.bits b).toNat))
  | .xor => some (.int k (k.wrap (BitVec.ofInt k.bits a ^^^ BitVec.ofInt k.bits b).toNat))
  | .andNot => some (.int k (k.wrap (BitVec.ofInt k.bits a &&& ~~~BitVec.ofInt k.bits b).toNat))
  | .eql => some (.bool (a == b))
  | .neq => some (.bool (a != b))
  | .lss => some (.bool (a < b))
  | .leq => some (.bool (a ≤ b))
  | .gtr => some (.bool (a > b))
  | .geq => some (.bool (a ≥ b))
  | _ => none

def shOp (op : BinOp) (k : IntKind) (a b : Int) : Option Value :=
  if b < 0 then none else match op with
  | .shl => some (.int k (k.wrap (a * 2 ^ (min b.toNat k.bits))))
  | .shr => some (.int k (a.fdiv (2 ^ (min b.toNat k.bits))))
  | _ => none

def strOp (op : BinOp) (a b : ByteArray) : Option Value :=
  match op with
  | .add => if a.size + b.size ≤ 1099511627776 then some (.string (a ++ b)) else none
  | .eql => some (.bool (a.toList == b.toList))
  | .neq => some (.bool (!(a.toList == b.toList)))
  | .lss => some (.bool (Op.bytesLess a.toList b.toList))
  | .leq => some (.bool (Op.bytesLess a.toList b.toList || a.toList == b.toList))
  | .gtr => some (.bool (!(Op.bytesLess a.toList b.toList || a.toList == b.toList)))
  | .geq => some (.bool (!Op.bytesLess a.toList b.toList))
  | _ => none

def valOp (op : BinOp) (x y : Value) : Option Value :=
  match x, y with
  | .int k a, .int k' b =>
    match op with
    | .shl | .shr => shOp op k a b
    | _ => if k = k' then intOp op k a b else none
  | .string a, .string b => strOp op a b
  | .bool a, .bool b => match op with | .eql => some (.bool (a == b)) | .neq => some (.bool (!(a == b))) | _ => none
  | .pointer none, .pointer none => match op with | .eql => some (.bool true) | .neq => some (.bool false) | _ => none
  | .nilFunc, .nilFunc => match op with | .eql => some (.bool true) | .neq => some (.bool false) | _ => none
  | _, _ => none

/-- Are the cells of two structs the same? -/
def cellsEq : List D → List D → Option Bool
  | [], [] => some true
  | .v x :: xs, .v y :: ys => match valOp .eql x y with
    | some (.bool b) => (cellsEq xs ys).map (b && ·)
    | _ => none
  | _, _ => none

def kindsB : List TK → List D → Bool
  | [], [] => true
  | .bool :: ks, .v (.bool _) :: xs => kindsB ks xs
  | .int _ :: ks, .v (.int _ _) :: xs => kindsB ks xs
  | .str :: ks, .v (.string _) :: xs => kindsB ks xs
  | _, _ => false

def eqKinds (E : Env) (t : TypeId) (xs : List D) : Bool := match E.eqOk t with
  | some ks => kindsB ks xs
  | none => false

def binD (E : Env) (op : BinOp) (t : TypeId) (x y : D) : Option D :=
  match x, y with
  | .v a, .v b => match a with
    | .pointer _ => match E.ty t with | some { kind := .ptr _, .. } => (valOp op a b).map .v | _ => none
    | .bool _ => match E.ty t with | some { kind := .bool, .. } => (valOp op a b).map .v | _ => none
    | .nilFunc => none
    | a => (valOp op a b).map .v
  | .agg xs, .agg ys => if eqKinds E t xs = true then match op with
      | .eql => (cellsEq xs ys).map fun b => .v (.bool b)
      | .neq => (cellsEq xs ys).map fun b => .v (.bool (!b))
      | _ => none
    else none
  | .ptr _ _, .v (.pointer none) => match E.ty t with
    | some { kind := .ptr _, .. } => match op with | .eql => some (.v (.bool false)) | .neq => some (.v (.bool true)) | _ => none
    | _ => none
  | _, _ => none

def unD (op : UnOp) (x : D) : Option D :=
  match op, x with
  | .neg, .v (.int k n) => some (.v (.int k (k.wrap (0 - n))))
  | .not, .v (.bool b) => some (.v (.bool !b))
  | _, _ => none

def bytesD (s : ByteArray) : List D := s.data.toList.map fun b => .v (.int .u8 b.toNat)

def toBytes : List D → Option (List UInt8)
  | [] => some []
  | .v (.int .u8 n) :: r => (toBytes r).map (UInt8.ofNat n.toNat :: ·)
  | _ => none

def chunk (z : Nat) (a : Bool) : Nat → List D → List D
  | 0, _ => []
  | n + 1, cs => (if a then .agg (cs.take z) else cs.headD .dead) :: chunk z a n (cs.drop z)

/-- A stretch of an object by its content. -/
def CS.view (E : Env) (c : CS) (s off len : Nat) : Option D :=
  match c.hp s with
  | some o => match E.ty o.ty with
    | some i => if 0 < i.size && (off + len) * i.size ≤ o.cells.length then some (.sl 0 i.size (chunk i.size i.agg len (o.cells.drop (off * i.size)))) else none
    | none => none
  | none => none

def CS.snap (E : Env) (c : CS) (d : D) : Option D := match d with
  | .ref s off len => (c.view E s off len).map D.norm
  | d => some d.norm

/-- What a call by itself answers: by content; a slice that may be appended to bears the mark 1. -/
def CS.out1 (E : Env) (c : CS) (d : D) : Option D := match d with
  | .sl k z l => some (.sl (if k = 1 then 1 else if 2 ≤ k ∧ c.tk k = some l.length then 2 else 0) z (D.normL l))
  | .ref s off len => (c.view E s off len).map D.norm
  | .dead => none
  | d => some d.norm

def CS.outL (E : Env) (c : CS) : List D → Option (List D)
  | [] => some []
  | d :: ds => match c.out1 E d, c.outL E ds with
    | some x, some xs => some (x :: xs)
    | _, _ => none

def CS.out (E : Env) (c : CS) (d : D) : Option D := match d with
  | .agg cs => (c.outL E cs).map .agg
  | .tup vs => (c.outL E vs).map .tup
  | d => c.out1 E d

/-- No mark. -/
def unmark1 : D → D
  | .sl _ z l => .sl 0 z l
  | d => d
def unmark : D → D
  | .agg cs => .agg (cs.map unmark1)
  | .tup vs => .tup (vs.map unmark1)
  | d => unmark1 d

/-- One marked slice becomes the caller's own: the answer itself (0), or its cell j - 1. -/
def mint1 (d : D) (c : CS) : D × CS := match d with
  | .sl 1 z l => (.sl c.nx z l, { c with tk := upd c.tk c.nx (some l.length), nx := c.nx + 1 })
  | .sl 2 z l => (.sl c.nx z l, { c with tk := upd c.tk c.nx (some l.length), nx := c.nx + 1 })
  | d => (unmark1 d, c)
def mint (j : Nat) (d : D) (c : CS) : D × CS := match j with
  | 0 => match d with
    | .agg cs => (.agg (cs.map unmark1), c)
    | .tup vs => (.tup (vs.map unmark1), c)
    | d => mint1 d c
  | j + 1 => match d with
    | .agg cs => match cs[j]? with
      | some x => (.agg ((cs.map unmark1).set j (mint1 x c).1), (mint1 x c).2)
      | none => (.agg (cs.map unmark1), c)
    | .tup vs => match vs[j]? with
      | some x => (.tup ((vs.map unmark1).set j (mint1 x c).1), (mint1 x c).2)
      | none => (.tup (vs.map unmark1), c)
    | d => (unmark1 d, c)

def flatD : D → Bool
  | .v _ => true
  | .tup vs => vs.all fun | .v _ => true | _ => false
  | .agg vs => vs.all fun | .v _ => true | _ => false
  | _ => false

abbrev CallF := FuncId → List D → CS → Option (D × CS)

def pcall (E : Env) (call : CallF) (f : FuncId) (args : List D) : Option D :=
  match call f (args.map D.norm) .fresh with
  | some (r, c) => c.out E r
  | none => none

def snapL (E : Env) (c : CS) : List D → Option (List D)
  | [] => some []
  | d :: ds => match c.snap E d, snapL E c ds with
    | some x, some xs => some (x :: xs)
    | _, _ => none

def callD (E : Env) (call : CallF) (m : CMode) (_t : TypeId) (f : FuncId) (args : List D) (c : CS) : Option (D × CS) :=
  match m with
  | .pure => (pcall E call f args).map fun r => (unmark r, c)
  | .raw => call f args c
  | .snap => match E.ext f with
    | some o => (o args).map fun r => (r, c)
    | none => none
  | _ => none

def maxRoom : Nat := 68719476736

/-- Elements that may lie in memory. -/
def okL (xs : List D) : Bool := xs.all fun d => d.cells.all D.cellB

/-- append: xs behind the slice x; e: the element's type. -/
def appendD (E : Env) (e : TypeId) (x : D) (xs : List D) (c : CS) : Option (D × CS) :=
  match E.ty e with
  | none => none
  | some i => match x with
    | .sl k z l =>
      if (z = i.size ∧ 0 < z) ∧ (l.length + xs.length) * (i.bytes + 1) ≤ maxRoom ∧ okL xs = true then
        if k = 1 then some (.sl c.nx z (l ++ xs), { c with tk := upd c.tk c.nx (some (l.length + xs.length)), nx := c.nx + 1 })
        else if 2 ≤ k ∧ c.tk k = some l.length then some (.sl k z (l ++ xs), { c with tk := upd c.tk k (some (l.length + xs.length)) })
        else none
      else none
    | _ => none

def dInt (d : D) : Option Int := match d with
  | .v (.int _ n) => some n
  | _ => none

def bnd (d : Option D) (dflt : Nat) : Option Nat := match d with
  | none => some dflt
  | some (.v (.int _ n)) => if 0 ≤ n then some n.toNat else none
  | some _ => none

def sliceD (E : Env) (t : TypeId) (x : D) (lo hi mx : Option D) (c : CS) : Option D :=
  match E.ty t, x with
  | some { kind := .str, .. }, .v (.string s) => match bnd lo 0, bnd hi s.size, mx with
    | some l, some h, none => if l ≤ h ∧ h ≤ s.size then some (.v (.string (s.extract l h))) else none
    | _, _, _ => none
  | some { kind := .slice e, .. }, .sl k z l => match E.ty e with
    | some i => match bnd lo 0, bnd hi l.length, mx with
      | some a, some b, none => if z = i.size ∧ 0 < z ∧ a ≤ b ∧ b ≤ l.length then some (.sl (if a = 0 ∧ b = l.length then k else 0) z ((l.take b).drop a)) else none
      | some a, some b, some m => match bnd (some m) 0 with
        | some m => if hi.isSome = true ∧ z = i.size ∧ 0 < z ∧ a ≤ b ∧ b = m ∧ m ≤ l.length then some (.sl 1 z ((l.take b).drop a)) else none
        | none => none
      | _, _, _ => none
    | none => none
  | some { kind := .slice e, .. }, .rm k z _ => match bnd lo 0, hi.bind dInt, mx with
    | some 0, some 0, none => if 2 ≤ k ∧ (E.ty e).isSome = true then some (.sl k z []) else none
    | _, _, _ => none
  | some { kind := .slice e, .. }, .ref s off len => match bnd lo 0, bnd hi len, mx with
    | some a, some b, none => if a ≤ b ∧ b ≤ len ∧ (c.hp s).map Obj.ty = some e then some (.ref s (off + a) (b - a)) else none
    | _, _, _ => none
  | some { kind := .arr n e, .. }, .gptr g o => match E.gl g, E.ty e, lo, hi, mx with
    | some cs, some i, none, none, none => if o = 0 ∧ 0 < i.size ∧ n * i.size = cs.length then some (.sl 0 i.size (chunk i.size i.agg n cs)) else none
    | _, _, _, _, _ => none
  | _, _ => none

def convD (E : Env) (src dst : TypeId) (x : D) : Option D :=
  match E.ty dst, x with
  | some { kind := .int k, .. }, .v (.int _ n) => (E.ty src).map fun _ => .v (.int k (k.wrap n))
  | some { kind := .str, .. }, .v (.string s) => (E.ty src).map fun _ => .v (.string s)
  | some { kind := .slice e, .. }, .v (.string s) => match E.ty src, E.ty e with
    | some _, some { kind := .int .u8, .. } => some (.sl 0 1 (bytesD s))
    | _, _ => none
  | some { kind := .str, .. }, .sl _ 1 l => match E.ty src with
    | some { kind := .slice e, .. } => match E.ty e, toBytes l with
      | some { kind := .int .u8, .. }, some bs => some (.v (.string ⟨bs.toArray⟩))
      | _, _ => none
    | _ => none
  | _, _ => none

def fillD (fs : List (Nat × Nat)) : List D → List (Nat × D) → Option (List D)
  | cs, [] => some cs
  | cs, (i, x) :: r => match fs[i]? with
    | some (off, size) => if x.cells.length = size ∧ x.cells.all D.cellB ∧ off + size ≤ cs.length then fillD fs (putCells cs off x.cells) r else none
    | none => none

/-- Where the parts of a struct or an array lie. -/
def placesD (E : Env) (i : TI) : Option (List (Nat × Nat)) := match i.kind with
  | .arr n e => match E.ty e with
    | some j => some ((List.range n).map fun q => (q * j.size, j.size))
    | none => none
  | .struct => some i.fields
  | _ => none

def buildD (E : Env) (i : TI) (parts : List (Nat × D)) : Option (List D) := match placesD E i with
  | some ps => fillD ps i.zero parts
  | none => none

def buildSliceD (i : TI) (len : Nat) (parts : List (Nat × D)) : Option (List D) :=
  if 0 < i.size ∧ len * i.size ≤ 16777216 then fillD ((List.range len).map fun j => (j * i.size, i.size)) ((List.range len).flatMap fun _ => i.zero) parts else none

def loadD (E : Env) (t : TypeId) (p : D) (c : CS) : Option D :=
  match E.ty t with
  | none => none
  | some i => match p with
    | .ptr s off => (c.hp s).bind fun o => dload i o.cells off
    | .eptr cs off => dload i cs off
    | .gptr g off => (E.gl g).bind fun cs => dload i cs off
    | _ => none

def storeD (E : Env) (t : TypeId) (p x : D) (c : CS) : Option CS :=
  match E.ty t, p with
  | some i, .ptr s off => match c.hp s with
    | some o => if x.cells.length = i.size ∧ x.cells.all D.cellB ∧ off + i.size ≤ o.cells.length then some (c.put s ⟨o.ty, putCells o.cells off x.cells⟩) else none
    | none => none
  | _, _ => none

def indexAddrD (E : Env) (t : TypeId) (x ix : D) (c : CS) : Option D :=
  match E.ty t, ix with
  | some { kind := .slice e, .. }, .v (.int _ n) => match E.ty e with
    | none => none
    | some i => if 0 ≤ n then match x with
      | .sl _ z l => if z = i.size then (l[n.toNat]?).map fun d => .eptr d.cells 0 else none
      | .ref s off len => match c.hp s with
        | some o => if o.ty = e ∧ n.toNat < len then some (.ptr s ((off + n.toNat) * i.size)) else none
        | none => none
      | _ => none
      else none
  | some { kind := .arr m e, .. }, .v (.int _ n) => match E.ty e with
    | none => none
    | some i => if 0 ≤ n ∧ n.toNat < m then match x with
      | .ptr s off => some (.ptr s (off + n.toNat * i.size))
      | .eptr cs off => some (.eptr cs (off + n.toNat * i.size))
      | .gptr g off => some (.gptr g (off + n.toNat * i.size))
      | _ => none
      else none
  | _, _ => none

def fieldAddrD (E : Env) (t : TypeId) (x : D) (f : Nat) : Option D :=
  match E.ty t with
  | some i => match i.fields[f]? with
    | some (off, size) => if size = 0 then none else match x with
      | .ptr s o => some (.ptr s (o + off))
      | .eptr cs o => some (.eptr cs (o + off))
      | .gptr g o => some (.gptr g (o + off))
      | _ => none
    | none => none
  | none => none

def indexD (E : Env) (t : TypeId) (x ix : D) : Option D :=
  match E.ty t, x, ix with
  | some { kind := .str, .. }, .v (.string s), .v (.int _ n) => if 0 ≤ n then (s.data[n.toNat]?).map fun b => .v (.int .u8 b.toNat) else none
  | some { kind := .arr m e, .. }, .agg cs, .v (.int _ n) => match E.ty e with
    | some i => if 0 ≤ n ∧ n.toNat < m ∧ m * i.size ≤ cs.length then dload i cs (n.toNat * i.size) else none
    | none => none
  | _, _, _ => none

def argL (E : Env) (s : St) (ts : List TypeId) : List Operand → List D
  | [] => []
  | x :: xs => s.opd (match (ts.headD 0 |> E.ty) with | some { kind := .slice e, .. } => (match E.ty e with | some i => i.size | none => 0) | _ => 0) x :: argL E s ts.tail xs

def elemZ (E : Env) (t : TypeId) : Nat := match E.ty t with
  | some { kind := .slice e, .. } => (match E.ty e with | some i => i.size | none => 0)
  | _ => 0

def builtinD (E : Env) (b : Builtin) (ts : List TypeId) (args : List D) (c : CS) : Option (D × CS) :=
  match b, args with
  | .len, [x] => match ts with
    | t :: _ => match E.ty t, x with
      | some { kind := .slice _, .. }, .sl _ _ l => some (.v (.int .i64 l.length), c)
      | some { kind := .slice _, .. }, .ref _ _ len => some (.v (.int .i64 len), c)
      | some { kind := .str, .. }, .v (.string s) => some (.v (.int .i64 s.size), c)
      | _, _ => none
    | [] => none
  | .cap, [x] => match ts with
    | t :: _ => match E.ty t, x with
      | some { kind := .slice _, .. }, .sl 1 _ l => some (.v (.int .i64 l.length), c)
      | _, _ => none
    | [] => none
  | .min, [.v (.int k a), .v (.int k' b)] => if k = k' then some (.v (.int k (if b < a then b else a)), c) else none
  | .max, [.v (.int k a), .v (.int k' b)] => if k = k' then some (.v (.int k (if b > a then b else a)), c) else none
  | .append, [x, y] => match ts with
    | [t, t2] => match E.ty t, E.ty t2 with
      | some { kind := .slice e, .. }, some { kind := .slice _, .. } => match y with
        | .sl _ z ys => if z = elemZ E t then appendD E e x ys c else none
        | _ => none
      | some { kind := .slice e, .. }, some { kind := .str, .. } => match y with
        | .v (.string s) => if 1 = elemZ E t then appendD E e x (bytesD s) c else none
        | _ => none
      | some { kind := .slice e, .. }, some { kind := .int _, .. } => match x, y, E.ty e with
        | .sl 1 z [], .v (.int _ n), some i => if (z = i.size ∧ 0 < z) ∧ 0 < n ∧ n.toNat * (i.bytes + 1) ≤ maxRoom then some (.rm c.nx z n.toNat, { c with tk := upd c.tk c.nx (some 0), nx := c.nx + 1 }) else none
        | _, _, _ => none
      | _, _ => none
    | _ => none
  | _, _ => none

def runOp (E : Env) (fi : FI) (call : CallF) (o : Oper) (s : St) : Option (D × CS) :=
  let p := s.opd (elemZ E o.type)
  match o.op with
  | .move x | .assign x => some (p x, s.cs)
  | .pick x a b => match p x with
    | .v (.bool t) => some (if t then p a else p b, s.cs)
    | _ => none
  | .alloc e => match E.ty e with
    | some i => if 0 < i.size then some (.ptr s.cs.nx 0, s.cs.new ⟨e, i.zero⟩) else none
    | none => none
  | .box e x => match E.ty e with
    | some i => if (p x).cells.length = i.size ∧ (p x).cells.all D.cellB then some (.ptr s.cs.nx 0, s.cs.new ⟨e, (p x).cells⟩) else none
    | none => none
  | .build t parts => match E.ty t with
    | some i => (buildD E i (parts.toList.map fun q => (q.1, s.opd 0 q.2))).map fun cs => (.agg cs, s.cs)
    | none => none
  | .buildSlice t len parts => match E.ty t with
    | some { kind := .slice e, .. } => match E.ty e with
      | some i => (buildSliceD i len (parts.toList.map fun q => (q.1, s.opd 0 q.2))).map fun cs => (.sl 1 i.size (chunk i.size i.agg len cs), s.cs)
      | none => none
    | _ => none
  | .load t a => (loadD E t (p a) s.cs).map fun d => (d, s.cs)
  | .store t a x => (storeD E t (p a) (s.opd (elemZ E t) x) s.cs).map fun c => (.tup [], c)
  | .nilCheck x => match p x with
    | .ptr a b => some (.ptr a b, s.cs)
    | .fn f caps => some (.fn f caps, s.cs)
    | _ => none
  | .binOp op t x y _ => match p x, y with
    | .sl _ _ (_ :: _), .const (.slice none 0 0) => match E.ty t with
      | some { kind := .slice _, .. } => match op with
        | .eql => some (.v (.bool false), s.cs)
        | .neq => some (.v (.bool true), s.cs)
        | _ => none
      | _ => none
    | dx, y => (binD E op t dx (p y)).map fun d => (d, s.cs)
  | .unOp op _ x => (unD op (p x)).map fun d => (d, s.cs)
  | .convert a b x => (convD E a b (p x)).map fun d => (d, s.cs)
  | .makeFunc (.func f) first caps => if first.size = 0 then some (.fn f (caps.toList.map p), s.cs) else none
  | .slice t x lo hi mx => (sliceD E t (p x) (lo.map p) (hi.map p) (mx.map p) s.cs).map fun d => (d, s.cs)
  | .fieldAddr t x f => (fieldAddrD E t (p x) f).map fun d => (d, s.cs)
  | .indexAddr t x ix => (indexAddrD E t (p x) (p ix) s.cs).map fun d => (d, s.cs)
  | .index t x ix => (indexD E t (p x) (p ix)).map fun d => (d, s.cs)
  | .lookup t x ix ok => match E.ty t, p x, p ix with
    | some { kind := .map k e, .. }, .mp m, .v (.string q) => match E.ty k, E.ty e with
      | some { kind := .str, .. }, some { zero := [.v z], agg := false, .. } =>
        some (match E.mp m q with
          | some v => if ok then .tup [.v v, .v (.bool true)] else .v v
          | none => if ok then .tup [.v z, .v (.bool false)] else .v z, s.cs)
      | _, _ => none
    | _, _, _ => none
  | .extract x i => match p x with
    | .tup vs => (vs[i]?).map fun d => (d, s.cs)
    | _ => none
  | .call q => match q.callee with
    | .builtin b => builtinD E b q.argTypes.toList (argL E s q.argTypes.toList q.args.toList) s.cs
    | .value f => match p f with
      | .fn g caps => callD E call (fi.mode (o.dst.getD 0)) o.type g (argL E s q.argTypes.toList q.args.toList ++ caps) s.cs
      | _ => none
    | _ => none
  | _ => none

/-- Is an operation of a region to be done? (none: not known) -/
def wantD (ops : Array Oper) (o : Oper) (s : St) : Option Bool :=
  match o.guard with
  | none => some true
  | some (j, want) => match ((ops[j]?).bind (·.dst)).bind (s.sl[·]?) with
    | some (.v (.bool b)) => some (b == want)
    | some (.tup _) => some false
    | _ => none

def runOps (E : Env) (fi : FI) (call : CallF) (ops : Array Oper) : List Oper → St → Option St
  | [], s => some s
  | o :: os, s => match wantD ops o s with
    | none => none
    | some false => runOps E fi call ops os (s.put o.dst (.tup []))
    | some true => match runOp E fi call o s with
      | none => none
      | some (d, c) => runOps E fi call ops os ({ s with cs := c }.put o.dst d)

inductive Ex where
  | normal | exit (id : Nat) | ret

def keepL (live : List Nat) : Nat → List D → List D
  | _, [] => []
  | i, d :: ds => (if live.contains i then d else .dead) :: keepL live (i + 1) ds

def St.keep (s : St) (fi : FI) (id : Nat) : St := match fi.keep id with
  | some live => { s with sl := keepL live 0 s.sl }
  | none => s

def iter (body : St → Option (Ex × St)) : Nat → St → Option (Ex × St)
  | 0, _ => none
  | n + 1, s => match body s with
    | some (.normal, s) => iter body n s
    | r => r

abbrev IterF := (St → Option (Ex × St)) → St → Option (Ex × St)

variable (E : Env) (fi : FI) (call : CallF) (draw : Nat → Array Oper → St → Option St) (it : IterF) in
def den : Code → St → Option (Ex × St)
  | .skip, s => some (.normal, s)
  | .label _, s => some (.normal, s)
  | .region id ops false, s => (runOps E fi call ops ops.toList (s.keep fi id)).map fun s => (.normal, s)
  | .region id ops true, s => (draw id ops (s.keep fi id)).map fun s => (.normal, s)
  | .seq a b, s => match den a s with
    | some (.normal, s) => den b s
    | r => r
  | .cond c a b, s => match s.opd 0 c with
    | .v (.bool true) => den a s
    | .v (.bool false) => den b s
    | _ => none
  | .block id c, s => match den c s with
    | some (.exit j, s) => some (if j = id then .normal else .exit j, s)
    | r => r
  | .loop c, s => it (den c) s
  | .scope c, s => den c s
  | .exit id, s => some (.exit id, s)
  | .ret, s => some (.ret, s)
  | _, _ => none

end Go.Den

namespace Go.Den

def resD (E : Env) (s : St) : ResultVar → Option D
  | .tmp t => some (s.sl.getD t .dead)
  | .cell a t => loadD E t (s.sl.getD a .dead) s.cs

def resL (E : Env) (s : St) : List ResultVar → Option (List D)
  | [] => some []
  | r :: rs => match resD E s r, resL E s rs with
    | some d, some ds => some (d :: ds)
    | _, _ => none

def resultsD (E : Env) (fi : FI) (s : St) : Option D := match resL E s fi.res with
  | some [d] => some d
  | some ds => some (.tup ds)
  | none => none

abbrev DrawF := FI → CallF → Nat → Array Oper → St → Option St

/-- A call, with so much fuel. -/
def F (E : Env) (draw : DrawF) : Nat → CallF
  | 0 => fun _ _ _ => none
  | n + 1 => fun f args c => match E.orc f with
    | some o => o args c
    | none => match E.fn f with
      | none => none
      | some fi =>
        if args.length = fi.np then
          match den E fi (F E draw n) (draw fi (F E draw n)) (fun b s => iter b n s) fi.body ⟨args ++ List.replicate (fi.nt - fi.np) .dead, c⟩ with
          | some (.normal, s) => (resultsD E fi s).map fun d => (d, s.cs)
          | some (.ret, s) => (resultsD E fi s).map fun d => (d, s.cs)
          | _ => none
        else none

end Go.Den

namespace Go.Den

/-- The ghosts: which cells stay as they are; the objects' blocks; the growing slices' blocks, and how far they are written; from which block on all is ours. -/
structure Gh where
  S : Nat → Nat → Prop
  io : Nat → Nat
  be : Nat → Option Nat
  hw : Nat → Nat
  base : Nat
  mb : Nat

def bsz (w : World) (b : Nat) : Nat := match w.heap[b]? with
  | some (.cells cs _ _) => cs.size
  | _ => 0

section
variable (E : Env) (c : CS) (g : Gh) (w : World)

inductive V : D → Value → Prop
  | v {x : Value} (h : flatB x = true) : V (.v x) x
  | agg {cs : List D} {vs : List Value} (h : cs.length = vs.length) (hv : ∀ (i : Nat) d, cs[i]? = some d → V d (vs.getD i undef)) : V (.agg cs) (.agg vs.toArray)
  | tup {cs : List D} {vs : List Value} (h : cs.length = vs.length) (hv : ∀ (i : Nat) d, cs[i]? = some d → V d (vs.getD i undef)) : V (.tup cs) (.tuple vs.toArray)
  | sl {k z : Nat} {l : List D} (a : Option Addr) (cap : Nat) (f : Nat → Nat → Value)
      (hcap : l.length ≤ cap) (hnone : a = none → cap = 0) (hz : ∀ (i : Nat) d, l[i]? = some d → d.cells.length = z)
      (hsome : l ≠ [] → ∃ ad, a = some ad ∧ ad.spot = none)
      (hcell : ∀ (i j : Nat) d x, l[i]? = some d → d.cells[j]? = some x → ∀ ad, a = some ad → w.cell? ⟨ad.block, ad.off + i * z + j, none⟩ = some (f i j) ∧ g.S ad.block (ad.off + i * z + j))
      (hv : ∀ (i j : Nat) d x, l[i]? = some d → d.cells[j]? = some x → V x (f i j))
      (hk : k < c.nx) (h1 : k = 1 → cap = l.length)
      (htok : ∀ n, 2 ≤ k → c.tk k = some n → l.length ≤ n ∧ (n = l.length → cap = l.length ∨ ∃ b, g.be k = some b ∧ a = some ⟨b, 0, none⟩ ∧ g.hw b = l.length * z ∧ bsz w b = cap * z ∧ b < w.heap.size)) :
      V (.sl k z l) (.slice a l.length cap)
  | ref {s off len : Nat} (a : Option Addr) (cap : Nat) (hs : s < c.nx)
      (h : ∀ o, c.hp s = some o → ∃ i, E.ty o.ty = some i ∧ 0 < i.size ∧ (0 < cap → a = some ⟨g.io s, off * i.size, none⟩) ∧ len ≤ cap ∧ (off + len) * i.size ≤ o.cells.length ∧ (off + cap) * i.size ≤ bsz w (g.io s) ∧ g.io s < w.heap.size) :
      V (.ref s off len) (.slice a len cap)
  | ptr {s off : Nat} (hs : s < c.nx) : V (.ptr s off) (.pointer (some ⟨g.io s, off, none⟩))
  | eptr {cs : List D} {off : Nat} (b o : Nat) (f : Nat → Value)
      (hcell : ∀ (j : Nat) d, cs[j]? = some d → w.cell? ⟨b, o + j, none⟩ = some (f j) ∧ g.S b (o + j))
      (hv : ∀ (j : Nat) d, cs[j]? = some d → V d (f j)) : V (.eptr cs off) (.pointer (some ⟨b, o + off, none⟩))
  | gptr {n off : Nat} : V (.gptr n off) (.pointer (some ⟨n, off, none⟩))
  | fn {f : FuncId} {cs : List D} {vs : List Value} (h : cs.length = vs.length) (hv : ∀ (i : Nat) d, cs[i]? = some d → V d (vs.getD i undef)) : V (.fn f cs) (.func (.func f) #[] vs.toArray)
  | mp {m b : Nat} (es : Array MapEntry) (clock : Nat) (hb : b < g.mb) (hw : w.heap[b]? = some (.map es clock))
      (h : ∀ s, match E.mp m s with
        | some v => flatB v = true ∧ ∃ i, Instr.findNow .string (.string s) es.toList 0 = some (some (i, v))
        | none => Instr.findNow .string (.string s) es.toList 0 = some none) : V (.mp m) (.map (some b))
  | rm {k z n : Nat} (a : Option Addr) (cap : Nat) (hcap : n ≤ cap) (hnone : a = none → cap = 0) (hk : k < c.nx)
      (htok : ∀ m, 2 ≤ k → c.tk k = some m → m = 0 → cap = 0 ∨ ∃ b, g.be k = some b ∧ a = some ⟨b, 0, none⟩ ∧ g.hw b = 0 ∧ bsz w b = cap * z ∧ b < w.heap.size) : V (.rm k z n) (.slice a n cap)
  | dead {x : Value} : V .dead x

end

/-- What may have become of the world, the table and the ghosts. -/
structure Evo (g : Gh) (c : CS) (w : World) (g' : Gh) (c' : CS) (w' : World) : Prop where
  base : g'.base = g.base
  mb : g'.mb = g.mb
  mbb : g.mb ≤ g.base
  os : w'.os = w.os
  tape : w'.tape = w.tape
  output : w'.output = w.output
  size : w.heap.size ≤ w'.heap.size
  low : ∀ b, b < g.base → w'.heap[b]? = w.heap[b]?
  S : ∀ b j, g.S b j → g'.S b j
  S' : ∀ b j, g'.S b j → g.S b j ∨ g.base ≤ b
  cell : ∀ b j, g.S b j → w'.cell? ⟨b, j, none⟩ = w.cell? ⟨b, j, none⟩
  nx : c.nx ≤ c'.nx
  io : ∀ s, s < c.nx → g'.io s = g.io s
  tk : ∀ k n', k < c.nx → c'.tk k = some n' → ∃ n, c.tk k = some n ∧ n ≤ n' ∧ (n' = n → g'.be k = g.be k ∧ ∀ b, g.be k = some b → g'.hw b = g.hw b)
  hp : ∀ s o', s < c.nx → c'.hp s = some o' → ∃ o, c.hp s = some o ∧ o'.ty = o.ty ∧ o'.cells.length = o.cells.length
  bsz : ∀ b, b < w.heap.size → bsz w' b = bsz w b

theorem Evo.refl {g : Gh} (h : g.mb ≤ g.base) (c : CS) (w : World) : Evo g c w g c w :=
  ⟨rfl, rfl, h, rfl, rfl, rfl, Nat.le_refl _, fun _ _ => rfl, fun _ _ h => h, fun _ _ h => .inl h, fun _ _ _ => rfl, Nat.le_refl _, fun _ _ => rfl,
   fun _ n _ h => ⟨n, h, Nat.le_refl _, fun _ => ⟨rfl, fun _ _ => rfl⟩⟩, fun _ o _ h => ⟨o, h, rfl, rfl⟩, fun _ _ => rfl⟩

theorem Evo.trans {g g' g'' : Gh} {c c' c'' : CS} {w w' w'' : World} (h : Evo g c w g' c' w') (k : Evo g' c' w' g'' c'' w'') : Evo g c w g'' c'' w'' where
  base := k.base.trans h.base
  mb := k.mb.trans h.mb
  mbb := h.mbb
  os := k.os.trans h.os
  tape := k.tape.trans h.tape
  output := k.output.trans h.output
  size := Nat.le_trans h.size k.size
  low := fun b hb => (k.low b (by rw [h.base]; exact hb)).trans (h.low b hb)
  S := fun b j x => k.S b j (h.S b j x)
  S' := fun b j x => by
    rcases k.S' b j x with x | x
    · exact h.S' b j x
    · exact .inr (by rw [← h.base]; exact x)
  cell := fun b j x => (k.cell b j (h.S b j x)).trans (h.cell b j x)
  nx := Nat.le_trans h.nx k.nx
  io := fun s hs => (k.io s (Nat.lt_of_lt_of_le hs h.nx)).trans (h.io s hs)
  tk := fun q n' hq x => by
    obtain ⟨n1, x1, l1, e1⟩ := k.tk q n' (Nat.lt_of_lt_of_le hq h.nx) x
    obtain ⟨n2, x2, l2, e2⟩ := h.tk q n1 hq x1
    refine ⟨n2, x2, Nat.le_trans l2 l1, fun e => ?_⟩
    have a1 : n' = n1 := Nat.le_antisymm (by omega) l1
    have a2 : n1 = n2 := by omega
    obtain ⟨b1, h1⟩ := e1 a1
    obtain ⟨b2, h2⟩ := e2 a2
    exact ⟨b1.trans b2, fun b hb => (h1 b (by rw [b2]; exact hb)).trans (h2 b hb)⟩
  hp := fun s o' hs x => by
    obtain ⟨o1, x1, t1, l1⟩ := k.hp s o' (Nat.lt_of_lt_of_le hs h.nx) x
    obtain ⟨o2, x2, t2, l2⟩ := h.hp s o1 hs x1
    exact ⟨o2, x2, t1.trans t2, l1.trans l2⟩
  bsz := fun b hb => (k.bsz b (Nat.lt_of_lt_of_le hb h.size)).trans (h.bsz b hb)

theorem V.mono {E : Env} {g g' : Gh} {c c' : CS} {w w' : World} (e : Evo g c w g' c' w') {d : D} {x : Value} (h : V E c g w d x) : V E c' g' w' d x := by
  induction h with
  | v h => exact .v h
  | agg h _ ih => exact .agg h ih
  | tup h _ ih => exact .tup h ih
  | fn h _ ih => exact .fn h ih
  | dead => exact .dead
  | @rm k z n a cap hcap hnone hk htok =>
    refine .rm a cap hcap hnone (Nat.lt_of_lt_of_le hk e.nx) (fun n' h2 hn' hz => ?_)
    obtain ⟨n, hn, hle, heq⟩ := e.tk k n' hk hn'
    have en : n' = n := by omega
    obtain ⟨hb, hh⟩ := heq en
    rcases htok n h2 hn (by omega) with x | ⟨b, x1, x2, x3, x4, x5⟩
    · exact .inl x
    · exact .inr ⟨b, hb.trans x1, x2, (hh b x1).trans x3, (e.bsz b x5).trans x4, Nat.lt_of_lt_of_le x5 e.size⟩
  | gptr => exact .gptr
  | ptr hs => rw [← e.io _ hs]; exact .ptr (Nat.lt_of_lt_of_le hs e.nx)
  | eptr b o f hcell _ ih =>
    exact .eptr b o f (fun j d hj => ⟨(e.cell _ _ (hcell j d hj).2).trans (hcell j d hj).1, e.S _ _ (hcell j d hj).2⟩) ih
  | mp es clock hb hw h => exact .mp es clock (by rw [e.mb]; exact hb) ((e.low _ (Nat.lt_of_lt_of_le hb e.mbb)).trans hw) h
  | @ref s off len a cap hs h =>
    refine .ref a cap (Nat.lt_of_lt_of_le hs e.nx) (fun o' ho' => ?_)
    obtain ⟨o, ho, ht, hl⟩ := e.hp s o' hs ho'
    obtain ⟨i, h1, h2, h3, h4, h5, h6, h7⟩ := h o ho
    exact ⟨i, by rw [ht]; exact h1, h2, by rw [e.io s hs]; exact h3, h4, by rw [hl]; exact h5, by rw [e.io s hs, e.bsz _ h7]; exact h6, by rw [e.io s hs]; exact Nat.lt_of_lt_of_le h7 e.size⟩
  | @sl k z l a cap f hcap hnone hz hsome hcell _ hk h1 htok ih =>
    refine .sl a cap f hcap hnone hz hsome (fun i j d x hi hj ad ha => ?_) ih (Nat.lt_of_lt_of_le hk e.nx) h1 (fun n' h2 hn' => ?_)
    · have := hcell i j d x hi hj ad ha
      exact ⟨(e.cell _ _ this.2).trans this.1, e.S _ _ this.2⟩
    · obtain ⟨n, hn, hle, heq⟩ := e.tk k n' hk hn'
      obtain ⟨hl, hlink⟩ := htok n h2 hn
      refine ⟨Nat.le_trans hl hle, fun hl' => ?_⟩
      have en : n' = n := by omega
      obtain ⟨hb, hh⟩ := heq en
      rcases hlink (by omega) with x | ⟨b, x1, x2, x3, x4, x5⟩
      · exact .inl x
      · exact .inr ⟨b, hb.trans x1, x2, (hh b x1).trans x3, (e.bsz b x5).trans x4, Nat.lt_of_lt_of_le x5 e.size⟩

end Go.Den

namespace Go.Den
open Go.RowKit

def sameV : Value → Value → Bool
  | .bool a, .bool b => a == b
  | .int k a, .int k' b => k == k' && a == b
  | .string a, .string b => a.toList == b.toList
  | .nilFunc, .nilFunc | .nilIface, .nilIface | .pointer none, .pointer none | .map none, .map none => true
  | _, _ => false

def zeroB : D → Value → Bool
  | .v a, x => sameV a x
  | .sl 1 _ [], .slice none 0 0 => true
  | _, _ => false

def zerosB : List D → List Value → Bool
  | [], [] => true
  | d :: ds, x :: xs => zeroB d x && zerosB ds xs
  | _, _ => false

def fieldsB (P : Program) : List Field → List (Nat × Nat) → Bool
  | [], [] => true
  | f :: fs, q :: qs => f.offset == q.1 && (match P.info? f.type with | some j => j.size == q.2 | none => false) && fieldsB P fs qs
  | _, _ => false

def kindB (P : Program) (t : TypeDesc) (i : TI) : Bool :=
  match t, i.kind with
  | .bool, .bool => !i.agg
  | .int k, .int k' => k == k' && !i.agg
  | .string, .str => !i.agg
  | .slice e, .slice e' => e == e' && !i.agg
  | .pointer e, .ptr e' => e == e' && !i.agg
  | .struct fs, .struct => i.agg && fieldsB P fs.toList i.fields
  | .array n e, .arr n' e' => i.agg && n == n' && e == e' && i.fields.isEmpty
  | .map k e, .map k' e' => k == k' && e == e' && !i.agg
  | .struct _, .other => false
  | .array _ _, .other => false
  | _, .other => !i.agg && i.fields.isEmpty
  | _, _ => false

def tyB (P : Program) (t : TypeId) (i : TI) : Bool :=
  match P.info? t, P.underlying t with
  | some j, some d => j.size == i.size && j.bytes == i.bytes && (match j.zero with | some z => zerosB i.zero z.cells.toList && i.zero.length == i.size | none => false) && kindB P d i &&
      (if i.agg then true else i.size == 1 && i.fields.isEmpty && (match j.zero with | some (.agg _) => false | _ => true))
  | _, _ => false

structure FnOk (P : Program) (f : FuncId) (fi : FI) : Prop where
  has : ∃ fn, P.funcs[f]? = some fn ∧ fn.body = some fi.body ∧ fn.ntmps = fi.nt ∧ fn.results.toList = fi.res ∧ (fn.name == "runtime.NumGoroutine") = false
  np : fi.np ≤ fi.nt

/-- Two structs' cells under '=='. -/
def EqOk (P : Program) (t : TypeId) (ks : List TK) : Prop := ∀ (xs ys : List D) (us vs : List Value) b, cellsEq xs ys = some b →
  (∀ (i : Nat) x, xs[i]? = some (.v x) → us[i]? = some x) → (∀ (i : Nat) x, ys[i]? = some (.v x) → vs[i]? = some x) → kindsB ks xs = true → xs.length = us.length → ys.length = vs.length →
  ∀ w, (do eqGuard .eql t (.tmp 0) (.tmp 0) (.agg us.toArray) (.agg vs.toArray); Op.equal t (.agg us.toArray) (.agg vs.toArray)).run P w = .ok b w

structure Inv (E : Env) (c : CS) (g : Gh) (w : World) : Prop where
  mb : g.mb ≤ g.base
  base : g.base ≤ w.heap.size
  nx : 2 ≤ c.nx
  hp : ∀ s o, c.hp s = some o → s < c.nx ∧ g.base ≤ g.io s ∧ g.io s < w.heap.size ∧ (∃ cs T, w.heap[g.io s]? = some (.cells cs T (0, 0)) ∧ o.cells.length ≤ cs.size ∧ (∀ (j : Nat) d, o.cells[j]? = some d → V E c g w d (cs.getD j undef))) ∧ (∀ j, ¬ g.S (g.io s) j)
  inj : ∀ s s' o o', c.hp s = some o → c.hp s' = some o' → g.io s = g.io s' → s = s'
  tk : ∀ k n, c.tk k = some n → 2 ≤ k ∧ k < c.nx ∧ ∀ b, g.be k = some b → g.base ≤ b ∧ b < w.heap.size ∧ (∃ cs T, w.heap[b]? = some (.cells cs T (0, 0)) ∧ g.hw b ≤ cs.size) ∧ (∀ j, g.S b j → j < g.hw b)
  tinj : ∀ k k' n n' b, c.tk k = some n → c.tk k' = some n' → g.be k = some b → g.be k' = some b → k = k'
  apart : ∀ k n b s o, c.tk k = some n → g.be k = some b → c.hp s = some o → g.io s ≠ b
  S : ∀ b j, g.S b j → b < w.heap.size
  gl : ∀ n cs, E.gl n = some cs → n < g.base ∧ ∀ (j : Nat) d, cs[j]? = some d → ∃ x, w.cell? ⟨n, j, none⟩ = some x ∧ V E c g w d x ∧ g.S n j
  one : ∀ s o, c.hp s = some o → ∀ d ∈ o.cells, d.cells = [d]

def HasBody (P : Program) (f : FuncId) : Prop := ∃ fn, P.funcs[f]? = some fn ∧ fn.body.isNone = false ∧ (fn.name == "runtime.NumGoroutine") = false

/-- What a call by itself owes: of what is handed over by content, the answer by content; nothing that was there is changed. -/
def PureOk (P : Program) (E : Env) (f : FuncId) (args : List D) (r : D) : Prop := ∀ c g w (vs : List Value), Inv E c g w →
  args.length = vs.length → (∀ (i : Nat) d, args[i]? = some d → V E c g w d (vs.getD i undef)) →
  Calls P f vs.toArray w fun e w' => ∃ x g', e = .returned x ∧ V E c g' w' r x ∧ Inv E c g' w' ∧ Evo g c w g' c w'

/-- What an answer of a call owes. -/
def AnsOk (P : Program) (E : Env) (f : FuncId) (args : List D) (cs : CS) (r : D) (cs' : CS) : Prop := ∀ g w (vs : List Value), Inv E cs g w →
  args.length = vs.length → (∀ (i : Nat) d, args[i]? = some d → V E cs g w d (vs.getD i undef)) →
  Calls P f vs.toArray w fun e w' => ∃ x g', e = .returned x ∧ V E cs' g' w' r x ∧ Inv E cs' g' w' ∧ Evo g cs w g' cs' w'

/-- What a call's table owes. -/
def CallOk (P : Program) (E : Env) (call : CallF) : Prop := ∀ f args cs r cs', call f args cs = some (r, cs') → HasBody P f ∧ AnsOk P E f args cs r cs'

def OrcOk (P : Program) (E : Env) : Prop := ∀ f o, E.orc f = some o → ∀ args c r c', o args c = some (r, c') → HasBody P f ∧ AnsOk P E f args c r c'

/-- What the answers of what has no Go text owe. -/
def ExtOk (P : Program) (E : Env) : Prop := ∀ f o, E.ext f = some o → ∀ args r, o args = some r → ∀ c g w (vs : List Value), Inv E c g w → args.length = vs.length →
  (∀ (i : Nat) d, args[i]? = some d → V E c g w d (vs.getD i undef)) → ∃ x, (callFunc f vs.toArray).run P w = .ok (.value x) w ∧ V E c g w r x

structure EnvOk (P : Program) (E : Env) : Prop where
  ty : ∀ t i, E.ty t = some i → tyB P t i = true
  fn : ∀ f fi, E.fn f = some fi → FnOk P f fi
  mixed : P.follows .mixedOrders = true
  eq : ∀ t ks, E.eqOk t = some ks → EqOk P t ks
  orc : OrcOk P E
  ext : ExtOk P E
  glOne : ∀ n cs, E.gl n = some cs → ∀ d ∈ cs, D.cells d = [d] ∧ d.norm = d

structure Rel (E : Env) (g : Gh) (s : St) (a : Act) (w : World) : Prop where
  size : a.tmps.size = s.sl.length
  slot : ∀ (i : Nat) d, s.sl[i]? = some d → V E s.cs g w d (a.tmps.getD i undef)
  defers : a.defers = []
  inv : Inv E s.cs g w

section
variable {P : Program} {E : Env}

theorem sameV_eq {a b : Value} (h : sameV a b = true) : a = b := by
  unfold sameV at h
  split at h
  · simp at h; rw [h]
  · simp at h; rw [h.1, h.2]
  · rename_i x y
    have : x = y := by
      have h' : x.toList = y.toList := by simpa using h
      rw [ByteArray.toList_eq, ByteArray.toList_eq] at h'
      cases x; cases y
      simp at h'
      rw [h']
    rw [this]
  all_goals first | rfl | simp at h

theorem tyB_spec {t : TypeId} {i : TI} (h : tyB P t i = true) : ∃ j d z, P.info? t = some j ∧ P.underlying t = some d ∧ j.size = i.size ∧ j.bytes = i.bytes ∧ j.zero = some z ∧ zerosB i.zero z.cells.toList = true ∧ i.zero.length = i.size ∧ kindB P d i = true ∧ (i.agg = false → i.size = 1 ∧ i.fields = []) := by
  unfold tyB at h
  split at h
  · rename_i j d hj hd
    split at h
    · rename_i z hz
      refine ⟨j, d, z, hj, hd, ?_⟩
      simp only [Bool.and_eq_true, beq_iff_eq] at h
      obtain ⟨⟨⟨⟨h1, h2⟩, h3, h4⟩, h5⟩, h6⟩ := h
      refine ⟨h1, h2, hz, h3, h4, h5, fun ha => ?_⟩
      rw [ha] at h6
      simp only [Bool.false_eq_true, if_false, Bool.and_eq_true, beq_iff_eq, List.isEmpty_iff] at h6
      exact h6.1
    · simp at h
  · simp at h

theorem tyB_one {t : TypeId} {i : TI} (h : tyB P t i = true) (ha : i.agg = false) {j : TypeInfo} {cs : Array Value} (hj : P.info? t = some j) : j.zero ≠ some (.agg cs) := by
  intro hz
  unfold tyB at h
  rw [hj] at h
  split at h
  · rename_i j' d hj' hd
    obtain rfl := Option.some.inj hj'
    rw [hz, ha] at h
    simp at h
  · simp at h

end
end Go.Den

namespace Go.Den
open Go.RowKit
section
variable {P : Program} {E : Env} {c : CS} {g : Gh} {w : World}

theorem get_of_getD {α : Type} {l : List α} {i : Nat} {d x : α} (hi : i < l.length) (h : l.getD i d = x) : l[i]? = some x := by
  rw [List.getD, List.getElem?_eq_getElem hi] at h
  rw [List.getElem?_eq_getElem hi, ← h]; rfl
theorem getD_of {α : Type} {l : List α} {i : Nat} {d x : α} (h : l[i]? = some x) : l.getD i d = x := by
  rw [List.getD, h]; rfl

theorem V.v_inv {a y : Value} (h : V E c g w (.v a) y) : y = a ∧ flatB a = true := by
  cases h with
  | v h => exact ⟨rfl, h⟩

theorem V.agg_inv {cs : List D} {y : Value} (h : V E c g w (.agg cs) y) : ∃ vs : List Value, y = .agg vs.toArray ∧ cs.length = vs.length ∧ ∀ (i : Nat) d, cs[i]? = some d → V E c g w d (vs.getD i undef) := by
  cases h with
  | agg h hv => exact ⟨_, rfl, h, hv⟩

theorem V.tup_inv {cs : List D} {y : Value} (h : V E c g w (.tup cs) y) : ∃ vs : List Value, y = .tuple vs.toArray ∧ cs.length = vs.length ∧ ∀ (i : Nat) d, cs[i]? = some d → V E c g w d (vs.getD i undef) := by
  cases h with
  | tup h hv => exact ⟨_, rfl, h, hv⟩

theorem V.int {k : IntKind} {n : Int} : V E c g w (.v (.int k n)) (.int k n) := .v rfl
theorem V.bool {b : Bool} : V E c g w (.v (.bool b)) (.bool b) := .v rfl
theorem V.str {b : ByteArray} : V E c g w (.v (.string b)) (.string b) := .v rfl

theorem run_guard {op : BinOp} {t : TypeId} {X Y : Operand} {x y : Value} {m : Sem Value} (hx : flatB x = true) (hn : x ≠ .nilIface) :
    (do eqGuard op t X Y x y; m : Sem Value).run P w = m.run P w := by
  unfold eqGuard
  cases op <;> first | rfl | (cases x <;> first | exact absurd rfl hn | rfl | (simp [flatB] at hx; done))

theorem binOp_int {op : BinOp} {t : TypeId} {k : IntKind} {a b : Int} (hs : op ≠ .shl) (hs' : op ≠ .shr) :
    binOp op t (.int k a) (.int k b) = (match op with
    | .add | .sub | .mul => Op.intArith op k a b
    | .quo | .rem => Op.intDiv op k a b
    | .and | .or | .xor | .andNot => Op.intBits op k a b
    | _ => Op.intCmp op a b) := by
  cases op <;> first | exact absurd rfl hs | exact absurd rfl hs' | simp [binOp]

theorem intOp_ok {op : BinOp} {k : IntKind} {a b : Int} {r : Value} (h : intOp op k a b = some r) (hs : op ≠ .shl) (hs' : op ≠ .shr) (t : TypeId) (X Y : Operand) :
    (do eqGuard op t X Y (.int k a) (.int k b); binOp op t (.int k a) (.int k b) : Sem Value).run P w = .ok r w ∧ flatB r = true := by
  rw [run_guard rfl (by simp), binOp_int hs hs']
  cases op <;> first | (exact absurd rfl hs) | (exact absurd rfl hs') | skip
  all_goals (simp only [intOp] at h)
  all_goals first
    | (obtain rfl := Option.some.inj h; exact ⟨rfl, rfl⟩)
    | (by_cases hb : b = 0
       · simp [hb] at h
       · simp only [if_neg hb] at h
         obtain rfl := Option.some.inj h
         refine ⟨?_, rfl⟩
         simp only [Op.intDiv, if_neg hb]
         rfl)

theorem shOp_ok {op : BinOp} {k yk : IntKind} {a b : Int} {r : Value} (h : shOp op k a b = some r) (t : TypeId) (X Y : Operand) :
    (do eqGuard op t X Y (.int k a) (.int yk b); binOp op t (.int k a) (.int yk b) : Sem Value).run P w = .ok r w ∧ flatB r = true := by
  rw [run_guard rfl (by simp)]
  unfold shOp at h
  by_cases hb : b < 0
  · simp [hb] at h
  · rw [if_neg hb] at h
    cases op <;> simp only [] at h <;> first | (simp at h; done) | skip
    all_goals (obtain rfl := Option.some.inj h; refine ⟨?_, rfl⟩; simp only [binOp, Op.shift, if_neg hb]; rfl)

theorem strOp_ok {op : BinOp} {a b : ByteArray} {r : Value} (h : strOp op a b = some r) (t : TypeId) (X Y : Operand) :
    (do eqGuard op t X Y (.string a) (.string b); binOp op t (.string a) (.string b) : Sem Value).run P w = .ok r w ∧ flatB r = true := by
  rw [run_guard rfl (by simp)]
  cases op <;> simp only [strOp] at h <;> first | (simp at h; done) | skip
  case add =>
    split at h
    · rename_i hl
      obtain rfl := Option.some.inj h
      refine ⟨?_, rfl⟩
      show (Op.stringOp .add a b).run P w = _
      unfold Op.stringOp
      have : ¬ (((a.size + b.size : Nat) : Int) > IntKind.i64.max) := by
        have : IntKind.i64.max = 9223372036854775807 := by decide
        omega
      simp only [if_neg this]
      rfl
    · simp at h
  all_goals (obtain rfl := Option.some.inj h; exact ⟨rfl, rfl⟩)

theorem run_underlying {t : TypeId} {d : TypeDesc} (h : P.underlying t = some d) : (underlying t).run P w = .ok d w := by
  unfold underlying; simp [go_sem, h]

theorem eq_bool {t : TypeId} (hu : P.underlying t = some .bool) (p q : Bool) : (Op.equal t (.bool p) (.bool q)).run P w = .ok (p == q) w := by
  show (Op.equalIn (9999 + 1) t _ _).run P w = _
  rw [Op.equalIn]; simp [go_sem, run_underlying hu]

theorem eq_nilptr {t e : TypeId} (hu : P.underlying t = some (.pointer e)) : (Op.equal t (.pointer none) (.pointer none)).run P w = .ok true w := by
  show (Op.equalIn (9999 + 1) t _ _).run P w = _
  rw [Op.equalIn]; simp [go_sem, run_underlying hu]

theorem eq_ptrnil {t e : TypeId} (hu : P.underlying t = some (.pointer e)) (a : Addr) : (Op.equal t (.pointer (some a)) (.pointer none)).run P w = .ok false w := by
  show (Op.equalIn (9999 + 1) t _ _).run P w = _
  rw [Op.equalIn]; simp [go_sem, run_underlying hu]

theorem valOp_ok (hE : EnvOk P E) {op : BinOp} {a b r : Value} (h : valOp op a b = some r) (t : TypeId) (X Y : Operand)
    (hp : a = .pointer none → ∃ e, P.underlying t = some (.pointer e)) (hb : ∀ p q, a = .bool p → b = .bool q → P.underlying t = some .bool) (hf : a ≠ .nilFunc) :
    (do eqGuard op t X Y a b; binOp op t a b : Sem Value).run P w = .ok r w ∧ flatB r = true := by
  unfold valOp at h
  split at h
  · rename_i k x k' y
    split at h
    · exact shOp_ok h t X Y
    · exact shOp_ok h t X Y
    · split at h
      · rename_i hk
        subst hk
        exact intOp_ok h (by assumption) (by assumption) t X Y
      · simp at h
  · exact strOp_ok h t X Y
  · rename_i p q
    have hu := hb p q rfl rfl
    rw [run_guard rfl (by simp)]
    split at h
    · obtain rfl := Option.some.inj h
      refine ⟨?_, rfl⟩
      show (do pure (.bool (← Op.equal t (.bool p) (.bool q))) : Sem Value).run P w = _
      simp only [Sem.run_bind, eq_bool hu, Result.andThen_ok]; rfl
    · obtain rfl := Option.some.inj h
      refine ⟨?_, rfl⟩
      show (do pure (.bool (!(← Op.equal t (.bool p) (.bool q)))) : Sem Value).run P w = _
      simp only [Sem.run_bind, eq_bool hu, Result.andThen_ok]; rfl
    · simp at h
  · obtain ⟨e, hu⟩ := hp rfl
    rw [run_guard rfl (by simp)]
    split at h
    · obtain rfl := Option.some.inj h
      refine ⟨?_, rfl⟩
      show (do pure (.bool (← Op.equal t (.pointer none) (.pointer none))) : Sem Value).run P w = _
      simp only [Sem.run_bind, eq_nilptr hu, Result.andThen_ok]; rfl
    · obtain rfl := Option.some.inj h
      refine ⟨?_, rfl⟩
      show (do pure (.bool (!(← Op.equal t (.pointer none) (.pointer none)))) : Sem Value).run P w = _
      simp only [Sem.run_bind, eq_nilptr hu, Result.andThen_ok]; rfl
    · simp at h
  · exact absurd rfl hf
  · simp at h

theorem ty_ptr (hE : EnvOk P E) {t : TypeId} {i : TI} {e : TypeId} (h : E.ty t = some i) (hk : i.kind = .ptr e) : P.underlying t = some (.pointer e) := by
  obtain ⟨j, d, z, h1, h2, h3, h4, h5, h6, h7, h8, h9⟩ := tyB_spec (hE.ty t i h)
  rw [h2]; unfold kindB at h8; rw [hk] at h8
  cases d <;> simp at h8
  rw [h8.1]

theorem ty_bool (hE : EnvOk P E) {t : TypeId} {i : TI} (h : E.ty t = some i) (hk : i.kind = .bool) : P.underlying t = some .bool := by
  obtain ⟨j, d, z, h1, h2, h3, h4, h5, h6, h7, h8, h9⟩ := tyB_spec (hE.ty t i h)
  rw [h2]; unfold kindB at h8; rw [hk] at h8
  cases d <;> simp at h8
  rfl

theorem ty_int (hE : EnvOk P E) {t : TypeId} {i : TI} {k : IntKind} (h : E.ty t = some i) (hk : i.kind = .int k) : P.underlying t = some (.int k) := by
  obtain ⟨j, d, z, h1, h2, h3, h4, h5, h6, h7, h8, h9⟩ := tyB_spec (hE.ty t i h)
  rw [h2]; unfold kindB at h8; rw [hk] at h8
  cases d <;> simp at h8
  rw [h8.1]

theorem ty_str (hE : EnvOk P E) {t : TypeId} {i : TI} (h : E.ty t = some i) (hk : i.kind = .str) : P.underlying t = some .string := by
  obtain ⟨j, d, z, h1, h2, h3, h4, h5, h6, h7, h8, h9⟩ := tyB_spec (hE.ty t i h)
  rw [h2]; unfold kindB at h8; rw [hk] at h8
  cases d <;> simp at h8
  rfl

theorem ty_slice (hE : EnvOk P E) {t : TypeId} {i : TI} {e : TypeId} (h : E.ty t = some i) (hk : i.kind = .slice e) : P.underlying t = some (.slice e) := by
  obtain ⟨j, d, z, h1, h2, h3, h4, h5, h6, h7, h8, h9⟩ := tyB_spec (hE.ty t i h)
  rw [h2]; unfold kindB at h8; rw [hk] at h8
  cases d <;> simp at h8
  rw [h8.1]

theorem ty_arr (hE : EnvOk P E) {t : TypeId} {i : TI} {n : Nat} {e : TypeId} (h : E.ty t = some i) (hk : i.kind = .arr n e) : P.underlying t = some (.array n e) := by
  obtain ⟨j, d, z, h1, h2, h3, h4, h5, h6, h7, h8, h9⟩ := tyB_spec (hE.ty t i h)
  rw [h2]; unfold kindB at h8; rw [hk] at h8
  cases d <;> simp at h8
  rw [h8.1.1.2, h8.1.2]

theorem ty_size (hE : EnvOk P E) {t : TypeId} {i : TI} (h : E.ty t = some i) (w : World) : (sizeOf t).run P w = .ok i.size w := by
  obtain ⟨j, d, z, h1, h2, h3, h4, h5, h6, h7, h8, h9⟩ := tyB_spec (hE.ty t i h)
  simp [sizeOf, typeInfo, go_sem, h1, h3]

theorem ty_isAgg (hE : EnvOk P E) {t : TypeId} {i : TI} (h : E.ty t = some i) (w : World) : (isAgg t).run P w = .ok i.agg w := by
  obtain ⟨j, d, z, h1, h2, h3, h4, h5, h6, h7, h8, h9⟩ := tyB_spec (hE.ty t i h)
  unfold isAgg
  simp only [Sem.run_bind, run_underlying h2, Result.andThen_ok]
  cases hk : i.kind <;> cases d <;> simp [kindB, hk] at h8 <;> simp_all [go_sem, Result.andThen]

theorem binD_ok (hE : EnvOk P E) {op : BinOp} {t : TypeId} {dx dy r : D} {x y : Value} (hx : V E c g w dx x) (hy : V E c g w dy y) (h : binD E op t dx dy = some r) (X Y : Operand) :
    ∃ v, (do eqGuard op t X Y x y; binOp op t x y : Sem Value).run P w = .ok v w ∧ V E c g w r v := by
  unfold binD at h
  split at h
  · rename_i a b
    obtain ⟨rfl, fx⟩ := hx.v_inv
    obtain ⟨rfl, fy⟩ := hy.v_inv
    split at h
    · rename_i pa
      split at h
      · rename_i i0 e0 s0 b0 g0 f0 z0 hty
        cases hv : valOp op (.pointer pa) y with
        | none => simp [hv] at h
        | some q =>
          rw [hv] at h
          obtain rfl := Option.some.inj h
          obtain ⟨h1, h2⟩ := valOp_ok (P := P) (E := E) (w := w) hE hv t X Y (fun _ => ⟨_, ty_ptr hE hty rfl⟩) (fun _ _ hh => by cases hh) (by simp)
          exact ⟨_, h1, .v h2⟩
      · simp at h
    · split at h
      · rename_i pb _ i0 s0 b0 g0 f0 hty
        cases hv : valOp op (.bool pb) y with
        | none => simp [hv] at h
        | some q =>
          rw [hv] at h
          obtain rfl := Option.some.inj h
          obtain ⟨h1, h2⟩ := valOp_ok (P := P) (E := E) (w := w) hE hv t X Y (fun hh => by cases hh) (fun _ _ _ _ => ty_bool hE hty rfl) (by simp)
          exact ⟨_, h1, .v h2⟩
      · simp at h
    · simp at h
    · rename_i n1 n2 n3
      cases hv : valOp op x y with
      | none => simp [hv] at h
      | some q =>
        rw [hv] at h
        obtain rfl := Option.some.inj h
        obtain ⟨h1, h2⟩ := valOp_ok (P := P) (E := E) (w := w) hE hv t X Y (fun hh => absurd hh (n1 _)) (fun p _ hh => absurd hh (n2 p)) n3
        exact ⟨_, h1, .v h2⟩
  · rename_i xs ys
    split at h
    · rename_i ht
      obtain ⟨us, rfl, lu, hu⟩ := hx.agg_inv
      obtain ⟨vs, rfl, lv, hv⟩ := hy.agg_inv
      obtain ⟨ks, hks, hkb⟩ : ∃ ks, E.eqOk t = some ks ∧ kindsB ks xs = true := by
        unfold eqKinds at ht
        split at ht
        · rename_i ks hks; exact ⟨ks, hks, ht⟩
        · simp at ht
      have hflat : ∀ b, cellsEq xs ys = some b → (do eqGuard .eql t (.tmp 0) (.tmp 0) (.agg us.toArray) (.agg vs.toArray); Op.equal t (.agg us.toArray) (.agg vs.toArray)).run P w = .ok b w := by
        intro b hb
        refine hE.eq t ks hks xs ys us vs b hb (fun i q hq => ?_) (fun i q hq => ?_) hkb lu lv w
        · exact get_of_getD (by rw [← lu]; exact (List.getElem?_eq_some_iff.1 hq).1) (hu i _ hq).v_inv.1
        · exact get_of_getD (by rw [← lv]; exact (List.getElem?_eq_some_iff.1 hq).1) (hv i _ hq).v_inv.1
      cases hc : cellsEq xs ys with
      | none => rw [hc] at h; split at h <;> simp at h
      | some b =>
        have hr := hflat b hc
        rw [hc] at h
        split at h
        · obtain rfl := Option.some.inj h
          refine ⟨.bool b, ?_, .v rfl⟩
          have e1 : (do eqGuard .eql t X Y (.agg us.toArray) (.agg vs.toArray); binOp .eql t (.agg us.toArray) (.agg vs.toArray) : Sem Value) = (do let q ← (do eqGuard .eql t (.tmp 0) (.tmp 0) (.agg us.toArray) (.agg vs.toArray); Op.equal t (.agg us.toArray) (.agg vs.toArray)); pure (.bool q)) := by
            simp only [binOp, bind_assoc]; rfl
          rw [e1, Sem.run_bind, hr]; rfl
        · obtain rfl := Option.some.inj h
          refine ⟨.bool !b, ?_, .v rfl⟩
          have e1 : (do eqGuard .neq t X Y (.agg us.toArray) (.agg vs.toArray); binOp .neq t (.agg us.toArray) (.agg vs.toArray) : Sem Value) = (do let q ← (do eqGuard .eql t (.tmp 0) (.tmp 0) (.agg us.toArray) (.agg vs.toArray); Op.equal t (.agg us.toArray) (.agg vs.toArray)); pure (.bool !q)) := by
            simp only [binOp, bind_assoc]; rfl
          rw [e1, Sem.run_bind, hr]; rfl
        · simp at h
    · simp at h
  · cases hx with
    | ptr hs =>
      obtain ⟨rfl, _⟩ := hy.v_inv
      split at h
      · rename_i i0 e0 s0 b0 g0 f0 z0 hty
        have hu := ty_ptr hE hty rfl
        split at h
        · obtain rfl := Option.some.inj h
          refine ⟨.bool false, ?_, .v rfl⟩
          show (do pure (.bool (← Op.equal t _ (.pointer none))) : Sem Value).run P w = _
          simp only [Sem.run_bind, eq_ptrnil hu, Result.andThen_ok]; rfl
        · obtain rfl := Option.some.inj h
          refine ⟨.bool true, ?_, .v rfl⟩
          show (do pure (.bool (!(← Op.equal t _ (.pointer none)))) : Sem Value).run P w = _
          simp only [Sem.run_bind, eq_ptrnil hu, Result.andThen_ok]; rfl
        · simp at h
      · simp at h
  · simp at h

theorem unD_ok {op : UnOp} {dx r : D} {x : Value} (hx : V E c g w dx x) (h : unD op dx = some r) : ∃ v, (Op.unary op x).run P w = .ok v w ∧ V E c g w r v := by
  unfold unD at h
  split at h
  · obtain ⟨rfl, _⟩ := hx.v_inv
    obtain rfl := Option.some.inj h
    exact ⟨_, rfl, .v rfl⟩
  · obtain ⟨rfl, _⟩ := hx.v_inv
    obtain rfl := Option.some.inj h
    exact ⟨_, rfl, .v rfl⟩
  · simp at h

/-- The part of a row of cells. -/
theorem dload_part (hE : EnvOk P E) {t : TypeId} {i : TI} (ht : E.ty t = some i) {cs : List D} {vs : List Value} {off : Nat} {r : D} (hl : cs.length = vs.length)
    (hv : ∀ (j : Nat) d, cs[j]? = some d → V E c g w d (vs.getD j undef)) (h : dload i cs off = some r) :
    ∃ v, (part t vs.toArray off).run P w = .ok v w ∧ V E c g w r v := by
  unfold dload at h
  unfold part
  simp only [Sem.run_bind, ty_isAgg hE ht, Result.andThen_ok]
  split at h
  · rename_i ha
    split at h
    · rename_i hb
      obtain rfl := Option.some.inj h
      rw [ha]
      simp only [if_true, Sem.run_bind, ty_size hE ht, Result.andThen_ok]
      refine ⟨.agg ((vs.drop off).take i.size).toArray, ?_, ?_⟩
      · have : (vs.toArray.extract off (off + i.size)) = ((vs.drop off).take i.size).toArray := by
          apply Array.toList_inj.1; simp [List.take_drop]
        rw [← this]; rfl
      · refine .agg (by simp [hl]) (fun j d hj => ?_)
        rw [List.getElem?_take] at hj
        split at hj
        · rename_i hjl
          rw [List.getElem?_drop] at hj
          have h1 := hv _ d hj
          have : ((vs.drop off).take i.size).getD j undef = vs.getD (off + j) undef := by
            simp only [List.getD, List.getElem?_take, if_pos hjl, List.getElem?_drop]
          rw [this]; exact h1
        · simp at hj
    · simp at h
  · rename_i ha
    have ha' : i.agg = false := by simpa using ha
    rw [ha']
    simp only [Bool.false_eq_true, if_false]
    have hi : off < vs.length := by rw [← hl]; exact (List.getElem?_eq_some_iff.1 h).1
    have h1 := hv _ r h
    rw [getD_of (List.getElem?_eq_getElem hi)] at h1
    refine ⟨vs[off], ?_, h1⟩
    have e : vs.toArray[off]? = some vs[off] := by simp [hi]
    rw [e]; rfl

theorem extractD_ok {vs : List D} {i : Nat} {x : Value} {r : D} (hx : V E c g w (.tup vs) x) (h : vs[i]? = some r) : ∃ v, (Instr.extract x i).run P w = .ok v w ∧ V E c g w r v := by
  obtain ⟨us, rfl, hl, hv⟩ := hx.tup_inv
  have hi : i < us.length := by rw [← hl]; exact (List.getElem?_eq_some_iff.1 h).1
  have h1 := hv _ r h
  rw [getD_of (List.getElem?_eq_getElem hi)] at h1
  refine ⟨us[i], ?_, h1⟩
  have e : us.toArray[i]? = some us[i] := by simp [hi]
  simp only [Instr.extract, e]; rfl

theorem fieldsB_get : ∀ (fs : List Field) (qs : List (Nat × Nat)) (f : Nat) (q : Nat × Nat), fieldsB P fs qs = true → qs[f]? = some q → ∃ x j, fs[f]? = some x ∧ x.offset = q.1 ∧ P.info? x.type = some j ∧ j.size = q.2
  | [], [], f, q, _, h => by simp at h
  | [], _ :: _, _, _, h, _ => by simp [fieldsB] at h
  | _ :: _, [], _, _, h, _ => by simp [fieldsB] at h
  | x :: xs, p :: ps, f, q, h, hq => by
    simp only [fieldsB, Bool.and_eq_true, beq_iff_eq] at h
    obtain ⟨⟨h1, h2⟩, h3⟩ := h
    cases f with
    | zero =>
      simp at hq; subst hq
      split at h2
      · rename_i j hj; exact ⟨x, j, rfl, h1, hj, by simpa using h2⟩
      · simp at h2
    | succ f => exact fieldsB_get xs ps f q h3 (by simpa using hq)

theorem ty_field (hE : EnvOk P E) {t : TypeId} {i : TI} {f off size : Nat} (h : E.ty t = some i) (hf : i.fields[f]? = some (off, size)) :
    ∃ fs x j, P.underlying t = some (.struct fs) ∧ fs[f]? = some x ∧ x.offset = off ∧ P.info? x.type = some j ∧ j.size = size := by
  obtain ⟨j, d, z, h1, h2, h3, h4, h5, h6, h7, h8, h9⟩ := tyB_spec (hE.ty t i h)
  unfold kindB at h8
  cases hk : i.kind <;> cases d <;> simp [hk] at h8 <;> first
    | (obtain ⟨ha, hb⟩ := h8
       obtain ⟨x, j', e1, e2, e3, e4⟩ := fieldsB_get (P := P) _ _ f (off, size) hb hf
       exact ⟨_, x, j', h2, by simpa using e1, e2, e3, e4⟩)
    | (exfalso; rw [h8.2] at hf; simp at hf; done)
    | skip
  all_goals (exfalso; simp_all)

theorem fieldAddrD_ok (hE : EnvOk P E) {t : TypeId} {dx r : D} {f : Nat} {x : Value} (hx : V E c g w dx x) (h : fieldAddrD E t dx f = some r) :
    ∃ v, (Instr.fieldAt t x f).run P w = .ok v w ∧ V E c g w r v := by
  unfold fieldAddrD at h
  split at h
  · rename_i i hi
    split at h
    · rename_i off size hf
      obtain ⟨fs, y, j, hu, hy, ho, hj, hs⟩ := ty_field hE hi hf
      by_cases h0 : size = 0
      · simp [h0] at h
      · simp only [if_neg h0] at h
        have key : ∀ a : Addr, a.spot = none → (Instr.fieldAt t (.pointer (some a)) f).run P w = .ok (.pointer (some ⟨a.block, a.off + off, none⟩)) w := by
          intro a ha
          unfold Instr.fieldAt
          simp only [Sem.run_bind, run_underlying hu, Result.andThen_ok, hy, Instr.sureAddr, fieldPlace, sizeOf, typeInfo]
          simp only [program, Sem.run, hj, Result.andThen_ok, Sem.run_pure, hs, if_neg h0, ho]
          simp only [Addr.add]
          by_cases hz : off = 0
          · subst hz; cases a; simp at ha; subst ha; simp
          · simp [hz]
        cases hx with
        | ptr hs' => obtain rfl := Option.some.inj h; exact ⟨_, key _ rfl, .ptr hs'⟩
        | eptr b o f' hc hv =>
          obtain rfl := Option.some.inj h
          refine ⟨_, key _ rfl, ?_⟩
          simp only [Nat.add_assoc]
          exact .eptr b o f' hc hv
        | gptr => obtain rfl := Option.some.inj h; exact ⟨_, key _ rfl, .gptr⟩
        | _ => simp at h
    · simp at h
  · simp at h

end
end Go.Den

namespace Go.Den
open Go.RowKit
section
variable {P : Program} {E : Env} {c : CS} {g : Gh} {w : World}

theorem heap_alloc_lt (w : World) (o : Go.Obj) {k : Nat} (h : k < w.heap.size) : (w.alloc o).heap[k]? = w.heap[k]? := Below.heap_alloc w o k h
theorem heap_alloc_eq (w : World) (o : Go.Obj) : (w.alloc o).heap[w.heap.size]? = some o := by
  show (w.heap.push o)[w.heap.size]? = _
  simp
theorem size_alloc (w : World) (o : Go.Obj) : (w.alloc o).heap.size = w.heap.size + 1 := by
  show (w.heap.push o).size = _
  simp

theorem cell_of {w w' : World} {b j : Nat} (h : w'.heap[b]? = w.heap[b]?) : w'.cell? ⟨b, j, none⟩ = w.cell? ⟨b, j, none⟩ := by simp only [World.cell?, h]
theorem bsz_of {w w' : World} {b : Nat} (h : w'.heap[b]? = w.heap[b]?) : bsz w' b = bsz w b := by simp only [bsz, h]
theorem cell_at {w : World} {b j : Nat} {cs : Array Value} {T : TypeId} {fz : Nat × Nat} (h : w.heap[b]? = some (.cells cs T fz)) : w.cell? ⟨b, j, none⟩ = cs[j]? := by simp [World.cell?, h]
theorem bsz_at {w : World} {b : Nat} {cs : Array Value} {T : TypeId} {fz : Nat × Nat} (h : w.heap[b]? = some (.cells cs T fz)) : bsz w b = cs.size := by simp [bsz, h]

/-- A world whose old blocks are as they were. -/
theorem evo_grow {w' : World} (hI : Inv E c g w) (hos : w'.os = w.os) (ht : w'.tape = w.tape) (ho : w'.output = w.output) (hs : w.heap.size ≤ w'.heap.size)
    (hb : ∀ k, k < w.heap.size → w'.heap[k]? = w.heap[k]?) : Evo g c w g c w' where
  base := rfl
  mb := rfl
  mbb := hI.mb
  os := hos
  tape := ht
  output := ho
  size := hs
  low := fun b h => hb b (Nat.lt_of_lt_of_le h hI.base)
  S := fun _ _ h => h
  S' := fun _ _ h => .inl h
  cell := fun b j h => cell_of (hb b (hI.S b j h))
  nx := Nat.le_refl _
  io := fun _ _ => rfl
  tk := fun _ n _ h => ⟨n, h, Nat.le_refl _, fun _ => ⟨rfl, fun _ _ => rfl⟩⟩
  hp := fun _ o _ h => ⟨o, h, rfl, rfl⟩
  bsz := fun b h => bsz_of (hb b h)

theorem inv_grow {w' : World} (hI : Inv E c g w) (e : Evo g c w g c w') (hb : ∀ k, k < w.heap.size → w'.heap[k]? = w.heap[k]?) : Inv E c g w' where
  mb := hI.mb
  base := Nat.le_trans hI.base e.size
  nx := hI.nx
  hp := fun s o h => by
    obtain ⟨h1, h2, h3, ⟨cs, T, h4, h5, h6⟩, h7⟩ := hI.hp s o h
    exact ⟨h1, h2, Nat.lt_of_lt_of_le h3 e.size, ⟨cs, T, (hb _ h3).trans h4, h5, fun j d hj => (h6 j d hj).mono e⟩, h7⟩
  inj := hI.inj
  tk := fun k n h => by
    obtain ⟨h1, h2, h3⟩ := hI.tk k n h
    refine ⟨h1, h2, fun b hbe => ?_⟩
    obtain ⟨a1, a2, ⟨cs, T, a3, a4⟩, a5⟩ := h3 b hbe
    exact ⟨a1, Nat.lt_of_lt_of_le a2 e.size, ⟨cs, T, (hb _ a2).trans a3, a4⟩, a5⟩
  tinj := hI.tinj
  apart := hI.apart
  S := fun b j h => Nat.lt_of_lt_of_le (hI.S b j h) e.size
  gl := fun n cs h => by
    obtain ⟨h1, h2⟩ := hI.gl n cs h
    refine ⟨h1, fun j d hj => ?_⟩
    obtain ⟨x, h3, h4, h5⟩ := h2 j d hj
    exact ⟨x, (e.cell n j h5).trans h3, h4.mono e, h5⟩
  one := hI.one

/-- A new block that nobody speaks of. -/
theorem alloc_ok (hI : Inv E c g w) (o : Go.Obj) : Evo g c w g c (w.alloc o) ∧ Inv E c g (w.alloc o) := by
  have e : Evo g c w g c (w.alloc o) := evo_grow hI rfl rfl rfl (by rw [size_alloc]; omega) (fun k h => heap_alloc_lt w o h)
  exact ⟨e, inv_grow hI e (fun k h => heap_alloc_lt w o h)⟩

theorem drew_ok (hI : Inv E c g w) (n : Nat) : Evo g c w g c { w with drawn := n } ∧ Inv E c g { w with drawn := n } := by
  have e : Evo g c w g c { w with drawn := n } := evo_grow hI rfl rfl rfl (Nat.le_refl _) (fun k h => rfl)
  exact ⟨e, inv_grow hI e (fun k h => rfl)⟩

def Gh.setIo (g : Gh) (s b : Nat) : Gh := { g with io := fun t => if t = s then b else g.io t }

/-- A new block that is a new object. -/
theorem new_ok (hI : Inv E c g w) {e : TypeId} {ds : List D} {vs : Array Value} {T : TypeId} (hone : ∀ d ∈ ds, d.cells = [d]) (hl : ds.length ≤ vs.size)
    (hv : ∀ (j : Nat) d, ds[j]? = some d → V E c g w d (vs.getD j undef)) :
    Evo g c w (g.setIo c.nx w.heap.size) (c.new ⟨e, ds⟩) (w.alloc (.cells vs T)) ∧ Inv E (c.new ⟨e, ds⟩) (g.setIo c.nx w.heap.size) (w.alloc (.cells vs T)) := by
  have hb : ∀ k, k < w.heap.size → (w.alloc (.cells vs T)).heap[k]? = w.heap[k]? := fun k h => heap_alloc_lt w _ h
  have hsz := size_alloc w (.cells vs T)
  have ev : Evo g c w (g.setIo c.nx w.heap.size) (c.new ⟨e, ds⟩) (w.alloc (.cells vs T)) :=
    { evo_grow hI (w' := w.alloc (.cells vs T)) rfl rfl rfl (by omega) hb with
      base := rfl
      mb := rfl
      mbb := hI.mb
      S := fun _ _ h => h
      S' := fun _ _ h => .inl h
      nx := by simp [CS.new]
      io := fun s hs => by simp [Gh.setIo]; intro h; omega
      tk := fun k n _ h => ⟨n, h, Nat.le_refl _, fun _ => ⟨rfl, fun _ _ => rfl⟩⟩
      hp := fun s o hs h => by
        have hne : s ≠ c.nx := by omega
        simp only [CS.new, upd, if_neg hne] at h
        exact ⟨o, h, rfl, rfl⟩ }
  refine ⟨ev, ?_⟩
  constructor
  · exact hI.mb
  · exact Nat.le_trans hI.base ev.size
  · exact Nat.le_trans hI.nx ev.nx
  · intro s o h
    by_cases hs : s = c.nx
    · subst hs
      simp only [CS.new, upd, if_true] at h
      obtain rfl := Option.some.inj h
      refine ⟨by simp [CS.new], by simpa [Gh.setIo] using hI.base, by simp [Gh.setIo, hsz], ⟨vs, T, by simpa [Gh.setIo] using heap_alloc_eq w (.cells vs T), hl, fun j d hj => (hv j d hj).mono ev⟩, fun j hS => ?_⟩
      have hS' : g.S w.heap.size j := by simpa [Gh.setIo] using hS
      exact absurd (hI.S _ _ hS') (Nat.lt_irrefl _)
    · simp only [CS.new, upd, if_neg hs] at h
      obtain ⟨h1, h2, h3, ⟨cs, T', h4, h5, h6⟩, h7⟩ := hI.hp s o h
      have hio : (g.setIo c.nx w.heap.size).io s = g.io s := by simp [Gh.setIo, hs]
      rw [hio]
      exact ⟨Nat.lt_of_lt_of_le h1 ev.nx, h2, Nat.lt_of_lt_of_le h3 ev.size, ⟨cs, T', (hb _ h3).trans h4, h5, fun j d hj => (h6 j d hj).mono ev⟩, h7⟩
  · intro s s' o o' h h' heq
    by_cases hs : s = c.nx <;> by_cases hs' : s' = c.nx
    · rw [hs, hs']
    · simp only [CS.new, upd, if_neg hs'] at h'
      have := (hI.hp s' o' h').2.2.1
      simp [Gh.setIo, hs, hs'] at heq
      omega
    · simp only [CS.new, upd, if_neg hs] at h
      have := (hI.hp s o h).2.2.1
      simp [Gh.setIo, hs, hs'] at heq
      omega
    · simp only [CS.new, upd, if_neg hs, if_neg hs'] at h h'
      simp only [Gh.setIo, if_neg hs, if_neg hs'] at heq
      exact hI.inj s s' o o' h h' heq
  · intro k n h
    obtain ⟨h1, h2, h3⟩ := hI.tk k n h
    refine ⟨h1, Nat.lt_of_lt_of_le h2 ev.nx, fun b hbe => ?_⟩
    obtain ⟨a1, a2, ⟨cs, T', a3, a4⟩, a5⟩ := h3 b hbe
    exact ⟨a1, Nat.lt_of_lt_of_le a2 ev.size, ⟨cs, T', (hb _ a2).trans a3, a4⟩, a5⟩
  · exact hI.tinj
  · intro k n b s o ht hbe h
    by_cases hs : s = c.nx
    · have := (hI.tk k n ht).2.2 b hbe
      simp [Gh.setIo, hs]; omega
    · simp only [CS.new, upd, if_neg hs] at h
      simp only [Gh.setIo, if_neg hs]
      exact hI.apart k n b s o ht hbe h
  · exact fun b j h => Nat.lt_of_lt_of_le (hI.S b j h) ev.size
  · intro n cs h
    obtain ⟨h1, h2⟩ := hI.gl n cs h
    refine ⟨h1, fun j d hj => ?_⟩
    obtain ⟨x, h3, h4, h5⟩ := h2 j d hj
    exact ⟨x, (ev.cell n j h5).trans h3, h4.mono ev, h5⟩
  · intro s o h
    by_cases hs : s = c.nx
    · subst hs
      simp only [CS.new, upd, if_true] at h
      obtain rfl := Option.some.inj h
      exact hone
    · simp only [CS.new, upd, if_neg hs] at h
      exact hI.one s o h

/-- One block anew. -/
def setBlk (w : World) (b : Nat) (o : Go.Obj) : World := { w with heap := w.heap.setIfInBounds b o }

def putArr : Array Value → Nat → List Value → Array Value
  | cs, _, [] => cs
  | cs, off, x :: xs => putArr (cs.setIfInBounds off x) (off + 1) xs

theorem putArr_size : ∀ (xs : List Value) (cs : Array Value) (off : Nat), (putArr cs off xs).size = cs.size
  | [], _, _ => rfl
  | x :: xs, cs, off => by simp [putArr, putArr_size xs]

theorem putArr_get_lt : ∀ (xs : List Value) (cs : Array Value) (off j : Nat), j < off → (putArr cs off xs)[j]? = cs[j]?
  | [], _, _, _, _ => rfl
  | x :: xs, cs, off, j, h => by
    rw [putArr, putArr_get_lt xs _ _ _ (by omega)]
    rw [Array.getElem?_setIfInBounds]; rw [if_neg (by omega)]

theorem putArr_get_ge : ∀ (xs : List Value) (cs : Array Value) (off j : Nat), off + xs.length ≤ j → (putArr cs off xs)[j]? = cs[j]?
  | [], _, _, _, _ => rfl
  | x :: xs, cs, off, j, h => by
    simp only [List.length_cons] at h
    rw [putArr, putArr_get_ge xs _ _ _ (by omega)]
    rw [Array.getElem?_setIfInBounds]; rw [if_neg (by omega)]

theorem putArr_get : ∀ (xs : List Value) (cs : Array Value) (off j : Nat), off + xs.length ≤ cs.size → j < xs.length → (putArr cs off xs)[off + j]? = xs[j]?
  | [], _, _, _, _, h => by simp at h
  | x :: xs, cs, off, 0, h, _ => by
    rw [putArr, putArr_get_lt xs _ _ _ (by omega)]
    simp only [List.length_cons] at h
    have h1 : off < cs.size := by omega
    simp [h1]
  | x :: xs, cs, off, j + 1, h, hj => by
    simp only [List.length_cons] at h hj
    rw [putArr, show off + (j + 1) = (off + 1) + j by omega, putArr_get xs _ _ _ (by simp; omega) (by omega)]
    simp

theorem setCell_blk {b off : Nat} {v : Value} {cs : Array Value} {T : TypeId} (h : w.heap[b]? = some (.cells cs T (0, 0))) :
    w.setCell ⟨b, off, none⟩ v = setBlk w b (.cells (cs.setIfInBounds off v) T (0, 0)) := by
  unfold World.setCell setBlk
  congr 1
  apply Array.ext_getElem?
  intro i
  rw [Array.getElem?_modify, Array.getElem?_setIfInBounds]
  obtain ⟨hb, hw⟩ := Array.getElem?_eq_some_iff.1 h
  by_cases hi : b = i
  · subst hi; simp [hb, hw]
  · simp [hi]

theorem setBlk_get {b : Nat} {o : Go.Obj} (hb : b < w.heap.size) : (setBlk w b o).heap[b]? = some o := by
  simp [setBlk, hb]
theorem setBlk_get_ne {b k : Nat} {o : Go.Obj} (hb : k ≠ b) : (setBlk w b o).heap[k]? = w.heap[k]? := by
  simp only [setBlk, Array.getElem?_setIfInBounds]
  rw [if_neg (fun h => hb h.symm)]
theorem setBlk_size {b : Nat} {o : Go.Obj} : (setBlk w b o).heap.size = w.heap.size := by simp [setBlk]
theorem setBlk_twice {b : Nat} {o o' : Go.Obj} : setBlk (setBlk w b o) b o' = setBlk w b o' := by
  unfold setBlk; simp

def oneCell : Value → Bool
  | .agg _ | .tuple _ => false
  | _ => true

theorem run_store_one {b off : Nat} {v : Value} {cs : Array Value} {T : TypeId} (h : w.heap[b]? = some (.cells cs T (0, 0))) (ho : off < cs.size) (hv : oneCell v = true) :
    (store ⟨b, off, none⟩ v).run P w = .ok () (setBlk w b (.cells (cs.setIfInBounds off v) T (0, 0))) := by
  have hc : w.cell? ⟨b, off, none⟩ = some cs[off] := by rw [cell_at h]; simp [ho]
  have hf : w.frozen? ⟨b, off, none⟩ = false := by simp [World.frozen?, h]
  rw [← setCell_blk h]
  cases v <;> first | (simp [oneCell] at hv; done) | (simp only [store, Sem.run, hc, hf]; rfl)

theorem run_storeCells {b off T : Nat} : ∀ (vs : List Value) (i : Nat) (w : World) (cs : Array Value), w.heap[b]? = some (.cells cs T (0, 0)) → off + i + vs.length ≤ cs.size → (∀ v ∈ vs, oneCell v = true) →
    (storeCells ⟨b, off, none⟩ vs i).run P w = .ok () (setBlk w b (.cells (putArr cs (off + i) vs) T (0, 0)))
  | [], i, w, cs, h, _, _ => by
    have : setBlk w b (.cells cs T (0, 0)) = w := by
      unfold setBlk
      cases w; simp only [World.mk.injEq, and_true]
      apply Array.ext_getElem?
      intro k
      simp only [Array.getElem?_setIfInBounds]
      split
      · rename_i hk; subst hk; split
        · exact h.symm
        · rename_i hn; simp at hn; simp [hn]
      · rfl
    simp only [putArr, this]; rfl
  | v :: vs, i, w, cs, h, hl, hv => by
    simp only [List.length_cons] at hl
    have hb : b < w.heap.size := (Array.getElem?_eq_some_iff.1 h).1
    have ha : (⟨b, off, none⟩ : Addr).add i = ⟨b, off + i, none⟩ := by
      unfold Addr.add; split
      · rename_i h0; subst h0; rfl
      · rfl
    simp only [storeCells, Sem.run_bind, ha, run_store_one h (by omega : off + i < cs.size) (hv v (by simp)), Result.andThen_ok]
    rw [run_storeCells vs (i + 1) _ (cs.setIfInBounds (off + i) v) (setBlk_get hb) (by simp; omega) (fun x hx => hv x (by simp [hx]))]
    rw [setBlk_twice]
    rfl

theorem evo_setBlk {b : Nat} {cs cs' : Array Value} {T : TypeId} (hmb : g.mb ≤ g.base) (hb : g.base ≤ b) (h : w.heap[b]? = some (.cells cs T (0, 0))) (hs : cs'.size = cs.size)
    (hS : ∀ j, g.S b j → cs'[j]? = cs[j]?) : Evo g c w g c (setBlk w b (.cells cs' T (0, 0))) where
  base := rfl
  mb := rfl
  mbb := hmb
  os := rfl
  tape := rfl
  output := rfl
  size := by rw [setBlk_size]; exact Nat.le_refl _
  low := fun k hk => setBlk_get_ne (by omega)
  S := fun _ _ h => h
  S' := fun _ _ h => .inl h
  cell := fun k j hk => by
    by_cases e : k = b
    · subst e
      have hl : k < w.heap.size := (Array.getElem?_eq_some_iff.1 h).1
      rw [cell_at (setBlk_get hl), cell_at h]; exact hS j hk
    · exact cell_of (setBlk_get_ne e)
  nx := Nat.le_refl _
  io := fun _ _ => rfl
  tk := fun _ n _ h => ⟨n, h, Nat.le_refl _, fun _ => ⟨rfl, fun _ _ => rfl⟩⟩
  hp := fun _ o _ h => ⟨o, h, rfl, rfl⟩
  bsz := fun k hk => by
    by_cases e : k = b
    · subst e; rw [bsz_at (setBlk_get hk), bsz_at h, hs]
    · exact bsz_of (setBlk_get_ne e)

end
end Go.Den

namespace Go.Den
open Go.RowKit
section
variable {P : Program} {E : Env} {c : CS} {g : Gh} {w : World}

theorem run_load {a : Addr} {v : Value} (h : w.cell? a = some v) : (load a).run P w = .ok v w := by simp [load, Sem.run, h]

theorem add_none (b o i : Nat) : (⟨b, o, none⟩ : Addr).add i = ⟨b, o + i, none⟩ := by
  unfold Addr.add; split
  · rename_i h0; subst h0; rfl
  · rfl

theorem run_loadCellsFrom {b o : Nat} {f : Nat → Value} : ∀ (n i : Nat) (acc : Array Value), (∀ j, j < n → w.cell? ⟨b, o + (i + j), none⟩ = some (f (i + j))) →
    (loadCellsFrom ⟨b, o, none⟩ i n acc).run P w = .ok (acc ++ ((List.range n).map fun j => f (i + j)).toArray) w
  | 0, i, acc, _ => by simp [loadCellsFrom, Sem.run_pure]
  | n + 1, i, acc, h => by
    have h0 := h 0 (by omega)
    simp only [Nat.add_zero] at h0
    simp only [loadCellsFrom, Sem.run_bind, add_none, run_load h0, Result.andThen_ok]
    rw [run_loadCellsFrom n (i + 1) (acc.push (f i)) (fun j hj => by have := h (j + 1) (by omega); rwa [show i + (j + 1) = i + 1 + j by omega] at this)]
    congr 1
    apply Array.toList_inj.1
    simp [List.range_succ_eq_map, Function.comp_def, Nat.add_assoc, Nat.add_comm 1]

theorem run_loadCells {b o n : Nat} {f : Nat → Value} (h : ∀ j, j < n → w.cell? ⟨b, o + j, none⟩ = some (f j)) :
    (loadCells ⟨b, o, none⟩ n).run P w = .ok ((List.range n).map f).toArray w := by
  unfold loadCells
  rw [run_loadCellsFrom n 0 #[] (fun j hj => by simpa using h j hj)]
  simp

/-- A variable read out of cells that are known. -/
theorem dload_mem (hE : EnvOk P E) {t : TypeId} {i : TI} (ht : E.ty t = some i) {cs : List D} {b o off : Nat} {f : Nat → Value} {r : D}
    (hc : ∀ (j : Nat) d, cs[j]? = some d → w.cell? ⟨b, o + j, none⟩ = some (f j) ∧ V E c g w d (f j)) (h : dload i cs off = some r) :
    ∃ v, (loadVar t ⟨b, o + off, none⟩).run P w = .ok v w ∧ V E c g w r v := by
  unfold dload at h
  unfold loadVar
  simp only [Sem.run_bind, ty_isAgg hE ht, Result.andThen_ok]
  split at h
  · rename_i ha
    split at h
    · rename_i hb
      obtain rfl := Option.some.inj h
      rw [ha]
      have hget : ∀ j, j < i.size → ∃ d, cs[off + j]? = some d := fun j hj => ⟨_, List.getElem?_eq_getElem (by omega)⟩
      have h1 : ∀ j, j < i.size → w.cell? ⟨b, (o + off) + j, none⟩ = some (f (off + j)) := fun j hj => by
        obtain ⟨d, hd⟩ := hget j hj
        have := (hc _ d hd).1
        rwa [Nat.add_assoc]
      simp only [if_true, Sem.run_bind, ty_size hE ht, Result.andThen_ok, run_loadCells h1]
      refine ⟨_, rfl, .agg (by simp; omega) (fun j d hj => ?_)⟩
      rw [List.getElem?_take] at hj
      split at hj
      · rename_i hjl
        rw [List.getElem?_drop] at hj
        have : ((List.range i.size).map fun j => f (off + j)).getD j undef = f (off + j) := by
          apply getD_of; simp [hjl]
        rw [this]; exact (hc _ d hj).2
      · simp at hj
    · simp at h
  · rename_i ha
    have ha' : i.agg = false := by simpa using ha
    rw [ha']
    simp only [Bool.false_eq_true, if_false]
    have := hc _ r h
    exact ⟨_, run_load this.1, this.2⟩

theorem loadD_ok (hE : EnvOk P E) (hI : Inv E c g w) {t : TypeId} {dp r : D} {x : Value} (hx : V E c g w dp x) (h : loadD E t dp c = some r) :
    ∃ v, (Instr.loadAt t x).run P w = .ok v w ∧ V E c g w r v := by
  unfold loadD at h
  split at h
  · simp at h
  · rename_i i hi
    have key : ∀ a : Addr, (Instr.loadAt t (.pointer (some a))).run P w = (loadVar t a).run P w := fun a => by
      unfold Instr.loadAt Instr.sureAddr; simp only [Sem.run_bind, Sem.run_pure, Result.andThen_ok]
    cases hx with
    | @ptr s off hs =>
      rw [key]
      cases ho : c.hp s with
      | none => simp [ho] at h
      | some o =>
        simp only [ho, Option.bind_some] at h
        obtain ⟨_, _, _, ⟨cs, T, h4, h5, h6⟩, _⟩ := hI.hp s o ho
        have := dload_mem (c := c) (g := g) (w := w) hE hi (cs := o.cells) (b := g.io s) (o := 0) (off := off) (f := fun j => cs.getD j undef) (fun j d hj => ⟨by
          have hjl : j < cs.size := Nat.lt_of_lt_of_le (List.getElem?_eq_some_iff.1 hj).1 h5
          rw [cell_at h4]; simp [Array.getD, hjl], h6 j d hj⟩) h
        simpa using this
    | eptr b o f hc hv =>
      rw [key]
      exact dload_mem hE hi (fun j d hj => ⟨(hc j d hj).1, hv j d hj⟩) h
    | @gptr n off =>
      rw [key]
      cases ho : E.gl n with
      | none => simp [ho] at h
      | some cs =>
        simp only [ho, Option.bind_some] at h
        have hg := (hI.gl n cs ho).2
        have := dload_mem (c := c) (g := g) (w := w) hE hi (cs := cs) (b := n) (o := 0) (off := off) (f := fun j => (w.cell? ⟨n, j, none⟩).getD undef) (fun j d hj => by
          obtain ⟨x, h1, h2, h3⟩ := hg j d hj
          simp only [Nat.zero_add, h1, Option.getD_some]
          exact ⟨trivial, h2⟩) h
        simpa using this
    | _ => simp at h

/-- The cells of a value. -/
theorem cells_ok {d : D} {x : Value} (h : V E c g w d x) (hc : d.cells.all D.cellB = true) :
    ∃ vs : List Value, x.cells = vs.toArray ∧ d.cells.length = vs.length ∧ (∀ (j : Nat) e, d.cells[j]? = some e → V E c g w e (vs.getD j undef)) ∧ ∀ v ∈ vs, oneCell v = true := by
  have one : ∀ (e : D) (v : Value), V E c g w e v → e.cellB = true → oneCell v = true := by
    intro e v he hb
    cases he <;> simp_all [D.cellB, oneCell]
    rename_i hf
    revert hf; cases v <;> simp [flatB]
  have single : (∀ v, x ≠ .agg v) → d.cells = [d] → ∃ vs : List Value, x.cells = vs.toArray ∧ d.cells.length = vs.length ∧ (∀ (j : Nat) e, d.cells[j]? = some e → V E c g w e (vs.getD j undef)) ∧ ∀ v ∈ vs, oneCell v = true := by
    intro hn hd
    rw [hd] at hc ⊢
    refine ⟨[x], ?_, rfl, fun j e hj => ?_, fun v hv => ?_⟩
    · cases x <;> first | rfl | exact absurd rfl (hn _)
    · cases j with
      | zero => simp at hj; subst hj; exact h
      | succ j => simp at hj
    · simp at hv; subst hv; exact one d v h (by simpa using hc)
  cases h with
  | agg hl hv =>
    rename_i cs vs
    refine ⟨vs, rfl, hl, hv, fun v hm => ?_⟩
    obtain ⟨j, hj, rfl⟩ := List.mem_iff_getElem.1 hm
    have hjc : j < cs.length := by rw [hl]; exact hj
    have h1 := hv j _ (List.getElem?_eq_getElem hjc)
    rw [getD_of (List.getElem?_eq_getElem hj)] at h1
    refine one _ _ h1 ?_
    simp only [D.cells, List.all_eq_true] at hc
    exact hc _ (List.getElem_mem hjc)
  | v hf => exact single (fun v e => by subst e; simp [flatB] at hf) rfl
  | tup => simp [D.cells, D.cellB] at hc
  | rm => simp [D.cells, D.cellB] at hc
  | dead => simp [D.cells, D.cellB] at hc
  | sl => exact single (fun v e => by cases e) rfl
  | ref => exact single (fun v e => by cases e) rfl
  | ptr => exact single (fun v e => by cases e) rfl
  | eptr => exact single (fun v e => by cases e) rfl
  | gptr => exact single (fun v e => by cases e) rfl
  | fn => exact single (fun v e => by cases e) rfl
  | mp => exact single (fun v e => by cases e) rfl

theorem putCells_length : ∀ (xs cs : List D) (off : Nat), (putCells cs off xs).length = cs.length
  | [], _, _ => rfl
  | x :: xs, cs, off => by rw [putCells, putCells_length xs]; simp

/-- Cells under what is put over them. -/
theorem put_rel {R : D → Value → Prop} : ∀ (xs : List D) (us : List Value) (ds : List D) (cs : Array Value) (off : Nat), xs.length = us.length →
    (∀ (j : Nat) e, xs[j]? = some e → R e (us.getD j undef)) → ds.length ≤ cs.size → off + xs.length ≤ ds.length → (∀ (j : Nat) e, ds[j]? = some e → R e (cs.getD j undef)) →
    ∀ (j : Nat) e, (putCells ds off xs)[j]? = some e → R e ((putArr cs off us).getD j undef)
  | [], [], _, _, _, _, _, _, _, h => h
  | [], _ :: _, _, _, _, hl, _, _, _, _ => by simp at hl
  | _ :: _, [], _, _, _, hl, _, _, _, _ => by simp at hl
  | x :: xs, u :: us, ds, cs, off, hl, hx, hs, ho, h => by
    simp only [List.length_cons] at hl ho
    rw [putCells, putArr]
    refine put_rel xs us _ _ _ (by omega) (fun j e hj => by have := hx (j + 1) e (by simpa using hj); simpa using this) (by simpa using hs) (by simp; omega) (fun j e hj => ?_)
    rw [List.getElem?_set] at hj
    split at hj
    · rename_i hoj
      subst hoj
      split at hj
      · obtain rfl := Option.some.inj hj
        have h0 := hx 0 x rfl
        have hlt : off < cs.size := by omega
        simpa [Array.getD, hlt] using h0
      · simp at hj
    · rename_i hoj
      have := h j e hj
      have hjl : j < cs.size := Nat.lt_of_lt_of_le (List.getElem?_eq_some_iff.1 hj).1 hs
      simpa [Array.getD, hjl, Array.getElem_setIfInBounds, hoj] using this

theorem putCells_one : ∀ (xs cs : List D) (off : Nat), (∀ d ∈ xs, d.cells = [d]) → (∀ d ∈ cs, d.cells = [d]) → ∀ d ∈ putCells cs off xs, d.cells = [d]
  | [], cs, off, _, h2 => h2
  | y :: ys, cs, off, h1, h2 => by
    refine putCells_one ys _ _ (fun d hd => h1 d (by simp [hd])) (fun d hd => ?_)
    rcases List.mem_or_eq_of_mem_set hd with hd | hd
    · exact h2 d hd
    · subst hd; exact h1 d (by simp)

theorem cellB_one {d : D} (h : d.cells.all D.cellB = true) : ∀ e ∈ d.cells, e.cells = [e] := by
  intro e he
  have := (List.all_eq_true.1 h) e he
  cases e <;> simp_all [D.cellB, D.cells]

theorem storeD_ok (hE : EnvOk P E) (hI : Inv E c g w) {t : TypeId} {dp dx : D} {p x : Value} {c' : CS} (hp : V E c g w dp p) (hx : V E c g w dx x) (h : storeD E t dp dx c = some c') :
    ∃ w', (Instr.storeAt t p x).run P w = .ok () w' ∧ Evo g c w g c' w' ∧ Inv E c' g w' := by
  unfold storeD at h
  split at h
  · rename_i i s off hi
    split at h
    · rename_i o ho
      split at h
      · rename_i hcond
        obtain ⟨hl, hcb, hoff⟩ := hcond
        obtain rfl := Option.some.inj h
        cases hp with
        | ptr hs =>
        obtain ⟨us, hu, hul, huv, huo⟩ := cells_ok hx hcb
        obtain ⟨k1, k2, k3, ⟨cs, T, k4, k5, k6⟩, k7⟩ := hI.hp s o ho
        have hsz : us.length = i.size := by rw [← hul]; exact hl
        have hrun : (Instr.storeAt t (.pointer (some ⟨g.io s, off, none⟩)) x).run P w = .ok () (setBlk w (g.io s) (.cells (putArr cs off us) T (0, 0))) := by
          unfold Instr.storeAt Instr.sureAddr storeVar
          simp only [Sem.run_bind, Sem.run_pure, Result.andThen_ok, ty_size hE hi]
          rw [hu]
          have : ¬ (us.toArray.size ≠ i.size) := by simp [hsz]
          simp only [if_neg this]
          have := run_storeCells (P := P) (b := g.io s) (off := off) (T := T) us 0 w cs k4 (by omega) huo
          simpa using this
        have hps := putArr_size us cs off
        have e0 : Evo g c w g c (setBlk w (g.io s) (.cells (putArr cs off us) T (0, 0))) := evo_setBlk hI.mb k2 k4 hps (fun j hj => absurd hj (k7 j))
        have e : Evo g c w g (c.put s ⟨o.ty, putCells o.cells off dx.cells⟩) (setBlk w (g.io s) (.cells (putArr cs off us) T (0, 0))) :=
          { e0 with
            hp := fun s' o' hs' h' => by
              by_cases hss : s' = s
              · subst hss
                simp only [CS.put, upd, if_true] at h'
                obtain rfl := Option.some.inj h'
                exact ⟨o, ho, rfl, putCells_length _ _ _⟩
              · simp only [CS.put, upd, if_neg hss] at h'
                exact ⟨o', h', rfl, rfl⟩ }
        refine ⟨_, hrun, e, ?_⟩
        constructor
        · exact hI.mb
        · rw [setBlk_size]; exact hI.base
        · exact hI.nx
        · intro s' o' h'
          by_cases hss : s' = s
          · subst hss
            simp only [CS.put, upd, if_true] at h'
            obtain rfl := Option.some.inj h'
            refine ⟨k1, k2, by rw [setBlk_size]; exact k3, ⟨_, T, setBlk_get k3, by rw [putArr_size]; simp only [putCells_length]; exact k5, ?_⟩, k7⟩
            intro j d hj
            have := put_rel (R := V E c g w) dx.cells us o.cells cs off hul huv k5 (by omega) k6 j d hj
            exact this.mono e
          · simp only [CS.put, upd, if_neg hss] at h'
            obtain ⟨m1, m2, m3, ⟨cs', T', m4, m5, m6⟩, m7⟩ := hI.hp s' o' h'
            have hne : g.io s' ≠ g.io s := fun he => hss (hI.inj _ _ _ _ h' ho he)
            exact ⟨m1, m2, by rw [setBlk_size]; exact m3, ⟨cs', T', (setBlk_get_ne hne).trans m4, m5, fun j d hj => (m6 j d hj).mono e⟩, m7⟩
        · intro a b oa ob ha hb he
          have fix : ∀ q oq, (c.put s ⟨o.ty, putCells o.cells off dx.cells⟩).hp q = some oq → ∃ oq', c.hp q = some oq' := by
            intro q oq hq
            by_cases hqs : q = s
            · subst hqs; exact ⟨o, ho⟩
            · simp only [CS.put, upd, if_neg hqs] at hq; exact ⟨_, hq⟩
          obtain ⟨_, ha'⟩ := fix a oa ha
          obtain ⟨_, hb'⟩ := fix b ob hb
          exact hI.inj _ _ _ _ ha' hb' he
        · intro k n hk
          obtain ⟨m1, m2, m3⟩ := hI.tk k n hk
          refine ⟨m1, m2, fun b hb => ?_⟩
          obtain ⟨a1, a2, ⟨cs', T', a3, a4⟩, a5⟩ := m3 b hb
          have hne : b ≠ g.io s := fun he => hI.apart k n b s o hk hb ho he.symm
          exact ⟨a1, by rw [setBlk_size]; exact a2, ⟨cs', T', (setBlk_get_ne hne).trans a3, a4⟩, a5⟩
        · exact hI.tinj
        · intro k n b s' o' hk hb h'
          by_cases hss : s' = s
          · subst hss; exact hI.apart k n b s' o hk hb ho
          · simp only [CS.put, upd, if_neg hss] at h'
            exact hI.apart k n b s' o' hk hb h'
        · intro b j hb; rw [setBlk_size]; exact hI.S b j hb
        · intro n cs' hn
          obtain ⟨h1, h2⟩ := hI.gl n cs' hn
          refine ⟨h1, fun j d hj => ?_⟩
          obtain ⟨x, h3, h4, h5⟩ := h2 j d hj
          exact ⟨x, (e.cell n j h5).trans h3, h4.mono e, h5⟩
        · intro s' o' h'
          by_cases hss : s' = s
          · subst hss
            simp only [CS.put, upd, if_true] at h'
            obtain rfl := Option.some.inj h'
            exact putCells_one _ _ _ (cellB_one hcb) (hI.one s' o ho)
          · simp only [CS.put, upd, if_neg hss] at h'
            exact hI.one s' o' h'
      · simp at h
    · simp at h
  · simp at h

end
end Go.Den

namespace Go.Den
open Go.RowKit
section
variable {P : Program} {E : Env} {c : CS} {g : Gh} {w : World}

theorem run_asIntOf (k : IntKind) (n : Int) : (asIntOf (.int k n)).run P w = .ok (k, n) w := rfl

theorem add_spot {a : Addr} (h : a.spot = none) (i : Nat) : a.add i = ⟨a.block, a.off + i, none⟩ := by
  cases a; simp at h; subst h; exact add_none _ _ _

theorem run_indexAt_slice {t e : TypeId} {k : IntKind} {n : Int} {ad : Addr} {len cap size : Nat} (hu : P.underlying t = some (.slice e)) (hs : ∀ w, (sizeOf e).run P w = .ok size w)
    (h0 : 0 ≤ n) (hn : n < len) (hsp : ad.spot = none) :
    (Instr.indexAt t (.slice (some ad) len cap) (.int k n)).run P w = .ok (.pointer (some ⟨ad.block, ad.off + n.toNat * size, none⟩)) w := by
  unfold Instr.indexAt
  simp only [Sem.run_bind, run_asIntOf, Result.andThen_ok, run_underlying hu, Sem.run_pure, if_pos (And.intro h0 hn), hs, add_spot hsp]

theorem run_indexAt_arr {t e : TypeId} {k : IntKind} {n : Int} {ad : Addr} {m size : Nat} (hu : P.underlying t = some (.array m e)) (hs : ∀ w, (sizeOf e).run P w = .ok size w)
    (h0 : 0 ≤ n) (hn : n < m) (hsp : ad.spot = none) :
    (Instr.indexAt t (.pointer (some ad)) (.int k n)).run P w = .ok (.pointer (some ⟨ad.block, ad.off + n.toNat * size, none⟩)) w := by
  unfold Instr.indexAt
  simp only [Sem.run_bind, run_asIntOf, Result.andThen_ok, run_underlying hu, Sem.run_pure, if_pos (And.intro h0 hn), hs, add_spot hsp, Instr.sureAddr]

theorem indexAddrD_ok (hE : EnvOk P E) {t : TypeId} {dx di r : D} {x y : Value} (hx : V E c g w dx x) (hy : V E c g w di y) (h : indexAddrD E t dx di c = some r) :
    ∃ v, (Instr.indexAt t x y).run P w = .ok v w ∧ V E c g w r v := by
  unfold indexAddrD at h
  split at h
  · rename_i e s0 b0 a0 f0 z0 k n hty
    obtain ⟨rfl, _⟩ := hy.v_inv
    have hu := ty_slice hE hty rfl
    split at h
    · simp at h
    · rename_i i hi
      split at h
      · rename_i h0
        split at h
        · rename_i k' z l
          split at h
          · rename_i hz
            cases hg : l[n.toNat]? with
            | none => simp [hg] at h
            | some d =>
              rw [hg] at h
              obtain rfl := Option.some.inj h
              cases hx with
              | sl a cap f hcap hnone hzz hsome hcell hv hk h1 htok =>
                have hlt : n.toNat < l.length := (List.getElem?_eq_some_iff.1 hg).1
                obtain ⟨ad, rfl, hsp⟩ := hsome (by intro hl; subst hl; simp at hg)
                refine ⟨_, run_indexAt_slice (size := i.size) hu (ty_size hE hi) h0 (by omega) hsp, ?_⟩
                have := V.eptr (E := E) (c := c) (g := g) (w := w) (cs := d.cells) (off := 0) ad.block (ad.off + n.toNat * z) (fun j => f n.toNat j)
                  (fun j x hj => hcell _ _ _ _ hg hj ad rfl) (fun j x hj => hv _ _ _ _ hg hj)
                rw [hz] at this
                simpa using this
          · simp at h
        · rename_i s off len
          split at h
          · rename_i o ho
            split at h
            · rename_i hc
              obtain rfl := Option.some.inj h
              cases hx with
              | ref a cap hs hl =>
                obtain ⟨i', e1, e2, e3, e4, e5, e6, e7⟩ := hl o ho
                rw [hc.1, hi] at e1
                obtain rfl := Option.some.inj e1
                obtain rfl := e3 (by omega)
                refine ⟨_, run_indexAt_slice (size := i.size) hu (ty_size hE hi) h0 (by omega) rfl, ?_⟩
                simp only [← Nat.add_mul]
                exact .ptr hs
            · simp at h
          · simp at h
        · simp at h
      · simp at h
  · rename_i m e s0 b0 a0 f0 z0 k n hty
    obtain ⟨rfl, _⟩ := hy.v_inv
    have hu := ty_arr hE hty rfl
    split at h
    · simp at h
    · rename_i i hi
      split at h
      · rename_i h0
        split at h
        · obtain rfl := Option.some.inj h
          cases hx with
          | ptr hs => exact ⟨_, run_indexAt_arr (size := i.size) hu (ty_size hE hi) h0.1 (by omega) rfl, .ptr hs⟩
        · obtain rfl := Option.some.inj h
          cases hx with
          | eptr b o f hc hv =>
            refine ⟨_, run_indexAt_arr (size := i.size) hu (ty_size hE hi) h0.1 (by omega) rfl, ?_⟩
            simp only [Nat.add_assoc]
            exact .eptr b o f hc hv
        · obtain rfl := Option.some.inj h
          cases hx with
          | gptr => exact ⟨_, run_indexAt_arr (size := i.size) hu (ty_size hE hi) h0.1 (by omega) rfl, .gptr⟩
        · simp at h
      · simp at h
  · simp at h

theorem indexD_ok (hE : EnvOk P E) {t : TypeId} {dx di r : D} {x y : Value} (hx : V E c g w dx x) (hy : V E c g w di y) (h : indexD E t dx di = some r) :
    ∃ v, (Instr.index t x y).run P w = .ok v w ∧ V E c g w r v := by
  unfold indexD at h
  split at h
  · rename_i s0 b0 a0 f0 z0 s k n hty
    obtain ⟨rfl, _⟩ := hx.v_inv
    obtain ⟨rfl, _⟩ := hy.v_inv
    have hu := ty_str hE hty rfl
    split at h
    · rename_i h0
      cases hg : s.data[n.toNat]? with
      | none => simp [hg] at h
      | some b =>
        rw [hg] at h
        obtain rfl := Option.some.inj h
        refine ⟨_, ?_, .v rfl⟩
        unfold Instr.index
        simp only [Sem.run_bind, run_asIntOf, Result.andThen_ok, run_underlying hu, if_pos h0]
        have hlt : n.toNat < s.data.size := (Array.getElem?_eq_some_iff.1 hg).1
        have : s[n.toNat]? = some b := by
          rw [getElem?_pos s n.toNat hlt]
          exact (Array.getElem?_eq_getElem hlt).symm.trans hg
        rw [this]; rfl
    · simp at h
  · rename_i m e s0 b0 a0 f0 z0 cs k n hty
    obtain ⟨rfl, _⟩ := hy.v_inv
    obtain ⟨vs, rfl, hl, hv⟩ := hx.agg_inv
    have hu := ty_arr hE hty rfl
    split at h
    · rename_i i hi
      split at h
      · rename_i h0
        unfold Instr.index
        simp only [Sem.run_bind, run_asIntOf, Result.andThen_ok, run_underlying hu]
        have : 0 ≤ n ∧ n < (m : Int) := ⟨h0.1, by omega⟩
        simp only [if_pos this, Sem.run_bind, ty_size hE hi, Result.andThen_ok]
        exact dload_part hE hi hl hv h
      · simp at h
    · simp at h
  · simp at h

theorem bnd_ok {d : Option D} {v : Option Value} {dflt n cap : Nat} {code : BoundsCode} (hd : ∀ q, d = some q → ∃ x, v = some x ∧ V E c g w q x) (hn : d = none → v = none)
    (h : bnd d dflt = some n) (hc : n ≤ cap) :
    (v = none ∧ n = dflt) ∨ (∃ x, v = some x ∧ (Instr.sliceBound x cap code).run P w = .ok n w) := by
  cases d with
  | none => simp [bnd] at h; exact .inl ⟨hn rfl, h.symm⟩
  | some q =>
    obtain ⟨x, rfl, hx⟩ := hd q rfl
    unfold bnd at h
    split at h
    · rename_i hh; cases hh
    · rename_i k m hh
      cases hh
      obtain ⟨rfl, _⟩ := hx.v_inv
      split at h
      · rename_i h0
        obtain rfl := Option.some.inj h
        refine .inr ⟨_, rfl, ?_⟩
        unfold Instr.sliceBound
        simp only [Sem.run_bind, run_asIntOf, Result.andThen_ok]
        rw [if_pos ⟨h0, by omega⟩]; rfl
      · simp at h
    · simp at h

/-- Two bounds of a slice expression. -/
theorem bounds_ok {dlo dhi : Option D} {lo hi : Option Value} {isS : Bool} {len cap a b : Nat} (hlo : ∀ q, dlo = some q → ∃ x, lo = some x ∧ V E c g w q x) (hlo' : dlo = none → lo = none)
    (hhi : ∀ q, dhi = some q → ∃ x, hi = some x ∧ V E c g w q x) (hhi' : dhi = none → hi = none)
    (ha : bnd dlo 0 = some a) (hb : bnd dhi len = some b) (hab : a ≤ b) (hbl : b ≤ cap) :
    (Instr.sliceBounds isS len cap lo hi none).run P w = .ok (a, b, cap) w := by
  unfold Instr.sliceBounds
  simp only [Sem.run_bind, Sem.run_pure, Result.andThen_ok]
  have h2 := bnd_ok (P := P) (c := c) (g := g) (w := w) (code := if isS then .sliceAcap else .sliceAlen) (cap := cap) hhi hhi' hb hbl
  have h1 := bnd_ok (P := P) (c := c) (g := g) (w := w) (code := .sliceB) (cap := b) hlo hlo' ha hab
  rcases h2 with ⟨rfl, rfl⟩ | ⟨x, rfl, hx⟩ <;> rcases h1 with ⟨rfl, rfl⟩ | ⟨y, rfl, hy⟩ <;>
    simp_all [Sem.run_bind, Sem.run_pure, Result.andThen_ok]

/-- Three bounds. -/
theorem bounds3_ok {dlo dhi dmx : Option D} {lo hi mx : Option Value} {len cap a b m : Nat} (hlo : ∀ q, dlo = some q → ∃ x, lo = some x ∧ V E c g w q x) (hlo' : dlo = none → lo = none)
    (hhi : ∀ q, dhi = some q → ∃ x, hi = some x ∧ V E c g w q x) (hs : dhi ≠ none) (hmx : ∀ q, dmx = some q → ∃ x, mx = some x ∧ V E c g w q x) (hms : dmx ≠ none)
    (ha : bnd dlo 0 = some a) (hb : bnd dhi len = some b) (hm : bnd dmx 0 = some m) (hab : a ≤ b) (hbm : b ≤ m) (hmc : m ≤ cap) :
    (Instr.sliceBounds true len cap lo hi mx).run P w = .ok (a, b, m) w := by
  unfold Instr.sliceBounds
  have h3 := bnd_ok (P := P) (c := c) (g := g) (w := w) (code := .slice3Acap) (cap := cap) hmx (fun h => absurd h hms) hm hmc
  have h2 := bnd_ok (P := P) (c := c) (g := g) (w := w) (code := .slice3B) (cap := m) hhi (fun h => absurd h hs) hb hbm
  have h1 := bnd_ok (P := P) (c := c) (g := g) (w := w) (code := .slice3C) (cap := b) hlo hlo' ha hab
  rcases h3 with ⟨rfl, rfl⟩ | ⟨z, rfl, hz⟩
  · cases dmx with
    | none => exact absurd rfl hms
    | some q => obtain ⟨x, hx, _⟩ := hmx q rfl; cases hx
  · rcases h2 with ⟨rfl, rfl⟩ | ⟨x, rfl, hx⟩
    · cases dhi with
      | none => exact absurd rfl hs
      | some q => obtain ⟨x, hx, _⟩ := hhi q rfl; cases hx
    · simp only [Sem.run_bind, if_true, hz, Result.andThen_ok, hx]
      rcases h1 with ⟨rfl, rfl⟩ | ⟨y, rfl, hy⟩
      · rfl
      · simp only [Option.isSome_some, if_true, Sem.run_bind, hy, Result.andThen_ok, Sem.run_pure]

end
end Go.Den

namespace Go.Den
open Go.RowKit
section
variable {P : Program} {E : Env} {c : CS} {g : Gh} {w : World}

theorem chunk_length (z : Nat) (a : Bool) : ∀ (n : Nat) (cs : List D), (chunk z a n cs).length = n
  | 0, _ => rfl
  | n + 1, cs => by simp [chunk, chunk_length z a n]

/-- The i-th chunk's cells. -/
theorem chunk_get (z : Nat) (a : Bool) (hz : a = false → z = 1) : ∀ (n : Nat) (cs : List D), n * z ≤ cs.length → (a = false → ∀ d ∈ cs, d.cells = [d]) → ∀ (i : Nat) d, (chunk z a n cs)[i]? = some d →
    d.cells = (cs.drop (i * z)).take z ∧ i < n
  | 0, _, _, _, i, d, h => by simp [chunk] at h
  | n + 1, cs, hl, hone, i, d, h => by
    have hl' : n * z + z ≤ cs.length := by rw [Nat.add_mul] at hl; omega
    cases i with
    | zero =>
      simp only [chunk, List.getElem?_cons_zero] at h
      obtain rfl := Option.some.inj h
      refine ⟨?_, by omega⟩
      cases a with
      | true => simp [D.cells]
      | false =>
        have := hz rfl
        subst this
        cases cs with
        | nil => simp at hl'
        | cons x xs => simp [hone rfl x (by simp)]
    | succ i =>
      simp only [chunk, List.getElem?_cons_succ] at h
      have := chunk_get z a hz n (cs.drop z) (by simp; omega) (fun ha d hd => hone ha d (List.mem_of_mem_drop hd)) i d h
      refine ⟨?_, by omega⟩
      rw [this.1, List.drop_drop]
      congr 2
      rw [Nat.add_mul]; omega

/-- A slice by the cells that it reads; nobody may append to it. -/
theorem V.sl_mk {k z : Nat} {l : List D} (a : Option Addr) (cap : Nat) (f : Nat → Value) (hcap : l.length ≤ cap) (hnone : a = none → cap = 0) (hz : ∀ (i : Nat) d, l[i]? = some d → d.cells.length = z)
    (hsome : l ≠ [] → ∃ ad, a = some ad ∧ ad.spot = none)
    (hcell : ∀ (i j : Nat) d x, l[i]? = some d → d.cells[j]? = some x → ∀ ad, a = some ad → w.cell? ⟨ad.block, ad.off + (i * z + j), none⟩ = some (f (i * z + j)) ∧ g.S ad.block (ad.off + (i * z + j)) ∧ V E c g w x (f (i * z + j)))
    (hk : k < 2) (hnx : 2 ≤ c.nx) (h1 : k = 1 → cap = l.length) : V E c g w (.sl k z l) (.slice a l.length cap) := by
  have key : ∀ (i j : Nat) d x, l[i]? = some d → d.cells[j]? = some x → ∃ ad, a = some ad ∧ w.cell? ⟨ad.block, ad.off + (i * z + j), none⟩ = some (f (i * z + j)) ∧ g.S ad.block (ad.off + (i * z + j)) ∧ V E c g w x (f (i * z + j)) := by
    intro i j d x hi hj
    obtain ⟨ad, ha, _⟩ := hsome (by intro hl; subst hl; simp at hi)
    exact ⟨ad, ha, hcell i j d x hi hj ad ha⟩
  refine .sl a cap (fun i j => f (i * z + j)) hcap hnone hz hsome (fun i j d x hi hj ad ha => ?_) (fun i j d x hi hj => ?_) (by omega) h1 (fun n h2 => by omega)
  · have := hcell i j d x hi hj ad ha
    rw [Nat.add_assoc]
    exact ⟨this.1, this.2.1⟩
  · obtain ⟨ad, ha, hh⟩ := key i j d x hi hj
    exact hh.2.2

/-- A stretch of a slice. -/
theorem V.cut {k k' z a b : Nat} {l : List D} {p : Option Addr} {cap cap' : Nat} (h : V E c g w (.sl k z l) (.slice p l.length cap)) (hab : a ≤ b) (hbl : b ≤ l.length) (hk' : k' < 2) (hnx : 2 ≤ c.nx)
    (hc : b - a ≤ cap') (hcc : cap' ≤ cap - a) (h1 : k' = 1 → cap' = b - a) (q : Option Addr) (hq : (cap' = 0 ∧ q = p) ∨ q = p.map (·.add (a * z))) :
    V E c g w (.sl k' z ((l.take b).drop a)) (.slice q (b - a) cap') := by
  cases h with
  | sl _ _ f hcap hnone hz hsome hcell hv hk h1' htok =>
  have hlen : ((l.take b).drop a).length = b - a := by simp; omega
  have hidx : ∀ (i : Nat) d, ((l.take b).drop a)[i]? = some d → l[a + i]? = some d ∧ a + i < b := by
    intro i d hi
    rw [List.getElem?_drop, List.getElem?_take] at hi
    split at hi
    · exact ⟨hi, by omega⟩
    · simp at hi
  have hq' : ∀ (i : Nat) d, ((l.take b).drop a)[i]? = some d → q = p.map (·.add (a * z)) := by
    intro i d hi
    rcases hq with ⟨h0, _⟩ | h0
    · have := (hidx i d hi).2; omega
    · exact h0
  rw [← hlen]
  have hsm : l ≠ [] → ∃ ad, p = some ad ∧ ad.spot = none := hsome
  refine .sl q cap' (fun i j => f (a + i) j) (by rw [hlen]; exact hc) (fun hn => ?_) (fun i d hi => hz _ _ (hidx i d hi).1) (fun hne => ?_) (fun i j d x hi hj ad ha => ?_) (fun i j d x hi hj => hv _ _ _ _ (hidx i d hi).1 hj) (by omega) (by rw [hlen]; exact h1) (fun n h2 => by omega)
  · rcases hq with ⟨h0, _⟩ | h0
    · exact h0
    · rw [h0] at hn
      have : p = none := by cases p <;> simp_all
      have := hnone this
      omega
  · obtain ⟨d, hd⟩ : ∃ d, ((l.take b).drop a)[0]? = some d := by
      cases hl : (l.take b).drop a with
      | nil => exact absurd hl hne
      | cons x xs => exact ⟨x, rfl⟩
    obtain ⟨ad, rfl, hs⟩ := hsome (by intro hl; subst hl; simp at hd)
    rw [hq' 0 d hd]
    exact ⟨ad.add (a * z), rfl, by rw [add_spot hs]⟩
  · obtain ⟨ad', rfl, hs⟩ := hsome (by intro hl; subst hl; simp at hi)
    rw [hq' i d hi] at ha
    obtain rfl := Option.some.inj ha
    simp only [add_spot hs]
    have := hcell (a + i) j d x (hidx i d hi).1 hj ad' rfl
    have e : ad'.off + (a + i) * z + j = ad'.off + a * z + i * z + j := by rw [Nat.add_mul]; omega
    rw [e] at this
    exact this

theorem sliceD_ok (hE : EnvOk P E) (hI : Inv E c g w) {t : TypeId} {dx r : D} {x : Value} {dlo dhi dmx : Option D} {lo hi mx : Option Value} (hx : V E c g w dx x)
    (hlo : ∀ q, dlo = some q → ∃ x, lo = some x ∧ V E c g w q x) (hlo' : dlo = none → lo = none)
    (hhi : ∀ q, dhi = some q → ∃ x, hi = some x ∧ V E c g w q x) (hhi' : dhi = none → hi = none)
    (hmx : ∀ q, dmx = some q → ∃ x, mx = some x ∧ V E c g w q x) (hmx' : dmx = none → mx = none)
    (h : sliceD E t dx dlo dhi dmx c = some r) : ∃ v, (Instr.sliceAt t x lo hi mx).run P w = .ok v w ∧ V E c g w r v := by
  unfold sliceD at h
  split at h
  · rename_i s0 b0 a0 f0 z0 s hty
    have hu := ty_str hE hty rfl
    obtain ⟨rfl, _⟩ := hx.v_inv
    split at h
    · rename_i a b ha hb
      split at h
      · rename_i hc
        obtain rfl := Option.some.inj h
        obtain rfl := hmx' rfl
        refine ⟨_, ?_, .v rfl⟩
        unfold Instr.sliceAt
        simp only [Sem.run_bind, run_underlying hu, Result.andThen_ok]
        unfold Instr.slice
        simp only [Sem.run_bind, run_underlying hu, Result.andThen_ok, Option.isSome_none, Bool.false_eq_true, if_false]
        rw [bounds_ok hlo hlo' hhi hhi' ha hb hc.1 hc.2]
        rfl
      · simp at h
    · simp at h
  · rename_i e s0 b0 a0 f0 z0 k z l hty
    have hu := ty_slice hE hty rfl
    split at h
    · rename_i i hi'
      have hx0 := hx
      cases hx with
      | sl p cap f hcap hnone hz hsome hcell hv hk h1' htok =>
      split at h
      · rename_i a b ha hb
        split at h
        · rename_i hc
          obtain rfl := Option.some.inj h
          obtain rfl := hmx' rfl
          have hrun : (Instr.sliceAt t (.slice p l.length cap) lo hi none).run P w = .ok (.slice (if cap = a then p else p.map (·.add (a * i.size))) (b - a) (cap - a)) w := by
            unfold Instr.sliceAt
            simp only [Sem.run_bind, run_underlying hu, Result.andThen_ok]
            unfold Instr.slice
            simp only [Sem.run_bind, run_underlying hu, Result.andThen_ok]
            rw [bounds_ok hlo hlo' hhi hhi' ha hb hc.2.2.1 (by omega)]
            simp only [Result.andThen_ok, ty_size hE hi']
            rfl
          refine ⟨_, hrun, ?_⟩
          by_cases hw : a = 0 ∧ b = l.length
          · obtain ⟨rfl, rfl⟩ := hw
            simp only [and_self, if_true, List.take_length, List.drop_zero, Nat.sub_zero]
            have : (if cap = 0 then p else p.map (·.add (0 * i.size))) = p := by
              split
              · rfl
              · cases p <;> simp [Addr.add]
            rw [this]; exact hx0
          · rw [if_neg hw]
            refine hx0.cut hc.2.2.1 hc.2.2.2 (by omega) hI.nx (by omega) (Nat.le_refl _) (fun h => by omega) _ ?_
            by_cases hca : cap = a
            · left; simp [hca]
            · right; rw [if_neg hca, hc.1]
        · simp at h
      · rename_i a b m ha hb
        split at h
        · rename_i mm hmm
          split at h
          · rename_i hc
            obtain rfl := Option.some.inj h
            have hne : dhi ≠ none := by intro hh; rw [hh] at hc; simp at hc
            · have hrun : (Instr.sliceAt t (.slice p l.length cap) lo hi mx).run P w = .ok (.slice (if mm = a then p else p.map (·.add (a * i.size))) (b - a) (mm - a)) w := by
                unfold Instr.sliceAt
                simp only [Sem.run_bind, run_underlying hu, Result.andThen_ok]
                unfold Instr.slice
                simp only [Sem.run_bind, run_underlying hu, Result.andThen_ok]
                rw [bounds3_ok hlo hlo' hhi hne hmx (by simp) ha hb hmm hc.2.2.2.1 (by omega) (by omega)]
                simp only [Result.andThen_ok, ty_size hE hi']
                rfl
              refine ⟨_, hrun, ?_⟩
              refine hx0.cut hc.2.2.2.1 (by omega) (by omega) hI.nx (by omega) (by omega) (fun h => by omega) _ ?_
              by_cases hca : mm = a
              · left; simp [hca]
              · right; rw [if_neg hca, hc.2.1]
          · simp at h
        · simp at h
      · simp at h
    · simp at h
  · rename_i e s0 b0 a0 f0 z0 k z n hty
    have hu := ty_slice hE hty rfl
    split at h
    · rename_i ha hb
      split at h
      · rename_i hk2
        obtain rfl := Option.some.inj h
        obtain rfl := hmx' rfl
        cases hx with
        | rm p cap hcap hnone hk htok =>
        obtain ⟨q, hq, hqi⟩ : ∃ q, dhi = some q ∧ dInt q = some 0 := by
          cases dhi with
          | none => simp at hb
          | some q => exact ⟨q, rfl, hb⟩
        subst hq
        have hb' : bnd (some q) n = some 0 := by
          unfold dInt at hqi
          split at hqi
          · obtain rfl := Option.some.inj hqi; rfl
          · simp at hqi
        obtain ⟨ei, hei⟩ := Option.isSome_iff_exists.1 hk2.2
        obtain ⟨sz, hsz⟩ : ∃ sz, ∀ w, (sizeOf e).run P w = .ok sz w := ⟨_, ty_size hE hei⟩
        have hrun : (Instr.sliceAt t (.slice p n cap) lo hi none).run P w = .ok (.slice (if cap = 0 then p else p.map (·.add (0 * sz))) (0 - 0) (cap - 0)) w := by
          unfold Instr.sliceAt
          simp only [Sem.run_bind, run_underlying hu, Result.andThen_ok]
          unfold Instr.slice
          simp only [Sem.run_bind, run_underlying hu, Result.andThen_ok]
          rw [bounds_ok hlo hlo' hhi hhi' ha hb' (Nat.le_refl _) (by omega)]
          simp only [Result.andThen_ok, hsz]
          rfl
        refine ⟨_, hrun, ?_⟩
        have : (if cap = 0 then p else p.map (·.add (0 * sz))) = p := by
          split
          · rfl
          · cases p <;> simp [Addr.add]
        rw [this]
        exact .sl (l := []) p cap (fun _ _ => undef) (Nat.zero_le _) hnone (by simp) (by simp) (by simp) (by simp) hk (by omega) (fun m h2 hm => ⟨Nat.zero_le _, fun hz => by
          rcases htok m h2 hm hz with x | ⟨b, x1, x2, x3, x4⟩
          · left; exact x
          · right; exact ⟨b, x1, x2, by simpa using x3, x4⟩⟩)
      · simp at h
    · simp at h
  · rename_i e s0 b0 a0 f0 z0 s off len hty
    have hu := ty_slice hE hty rfl
    split at h
    · rename_i a b ha hb
      split at h
      · rename_i hc
        obtain rfl := Option.some.inj h
        obtain rfl := hmx' rfl
        cases hx with
        | ref p cap hs hl =>
        cases ho : c.hp s with
        | none => rw [ho] at hc; simp at hc
        | some o =>
        rw [ho] at hc
        have hoe : o.ty = e := by simpa using hc.2.2
        obtain ⟨i, e1, e2, e3, e4, e5, e6, e7⟩ := hl o ho
        have hsz : ∀ w, (sizeOf e).run P w = .ok i.size w := ty_size hE (by rw [← hoe]; exact e1)
        have hrun : (Instr.sliceAt t (.slice p len cap) lo hi none).run P w = .ok (.slice (if cap = a then p else p.map (·.add (a * i.size))) (b - a) (cap - a)) w := by
          unfold Instr.sliceAt
          simp only [Sem.run_bind, run_underlying hu, Result.andThen_ok]
          unfold Instr.slice
          simp only [Sem.run_bind, run_underlying hu, Result.andThen_ok]
          rw [bounds_ok hlo hlo' hhi hhi' ha hb hc.1 (by omega)]
          simp only [Result.andThen_ok, hsz]
          rfl
        refine ⟨_, hrun, .ref _ _ hs (fun o' ho' => ?_)⟩
        rw [ho] at ho'
        obtain rfl := Option.some.inj ho'
        refine ⟨i, e1, e2, fun hcap => ?_, by omega, Nat.le_trans (Nat.mul_le_mul_right _ (by omega)) e5, Nat.le_trans (Nat.mul_le_mul_right _ (by omega)) e6, e7⟩
        obtain rfl := e3 (by omega)
        rw [if_neg (by omega)]
        simp only [Option.map_some, add_none, Nat.add_mul]
      · simp at h
    · simp at h
  · rename_i n e s0 b0 a0 f0 z0 gn o hty
    have hu := ty_arr hE hty rfl
    split at h
    · rename_i cs i hgl hi'
      split at h
      · rename_i hc
        obtain ⟨rfl, h0, hsz⟩ := hc
        obtain rfl := Option.some.inj h
        have q1 := hlo' rfl
        have q2 := hhi' rfl
        have q3 := hmx' rfl
        subst q1 q2 q3
        cases hx with
        | gptr =>
        have hlen := chunk_length i.size i.agg n cs
        refine ⟨.slice (some ⟨gn, 0, none⟩) n n, ?_, ?_⟩
        · unfold Instr.sliceAt
          simp only [Sem.run_bind, run_underlying hu, Result.andThen_ok, Instr.sureAddr, Sem.run_pure, Instr.sliceBounds, ty_size hE hi']
          have : (if n = 0 then (⟨gn, 0, none⟩ : Addr) else (⟨gn, 0, none⟩ : Addr).add (0 * i.size)) = ⟨gn, 0, none⟩ := by
            split <;> simp [Addr.add]
          rw [this]; simp
        · have hgl' := hI.gl gn cs hgl
          obtain ⟨j0, d0, zz, h1, h2, h3, h4, h5, h6, h7, h8, h9⟩ := tyB_spec (hE.ty e i hi')
          have hone : i.agg = false → ∀ d ∈ cs, d.cells = [d] := fun _ d hd => (hE.glOne gn cs hgl d hd).1
          have hg := chunk_get i.size i.agg (fun h => (h9 h).1) n cs (by omega) hone
          have := V.sl_mk (E := E) (c := c) (g := g) (w := w) (k := 0) (z := i.size) (l := chunk i.size i.agg n cs) (some ⟨gn, 0, none⟩) n (fun q => (w.cell? ⟨gn, q, none⟩).getD undef)
            (by omega) (by simp) (fun q d hq => ?_) (fun _ => ⟨_, rfl, rfl⟩) (fun q j d x hq hj ad ha => ?_) (by omega) hI.nx (by omega)
          · rwa [hlen] at this
          · have h1 := hg q d hq
            rw [h1.1]
            have : (q + 1) * i.size ≤ n * i.size := Nat.mul_le_mul_right _ (by omega)
            rw [Nat.add_mul] at this
            simp; omega
          · obtain rfl := Option.some.inj ha
            have h1 := hg q d hq
            rw [h1.1, List.getElem?_take] at hj
            split at hj
            · rw [List.getElem?_drop] at hj
              obtain ⟨y, y1, y2, y3⟩ := hgl'.2 _ _ hj
              simp only [Nat.zero_add, y1, Option.getD_some]
              exact ⟨trivial, y3, y2⟩
            · simp at hj
      · simp at h
    · simp at h
  · simp at h

end
end Go.Den

namespace Go.Den
open Go.RowKit
section
variable {P : Program} {E : Env} {c : CS} {g : Gh} {w : World}

theorem sameV_flat {a b : Value} (h : sameV a b = true) : flatB a = true := by
  unfold sameV at h
  split at h <;> first | rfl | simp at h

theorem zeroB_ok (hnx : 2 ≤ c.nx) {d : D} {x : Value} (h : zeroB d x = true) : V E c g w d x := by
  unfold zeroB at h
  split at h
  · rw [← sameV_eq h]; exact .v (sameV_flat h)
  · have := V.sl (E := E) (c := c) (g := g) (w := w) (k := 1) (z := by assumption) (l := []) none 0 (fun _ _ => undef) (Nat.le_refl _) (fun _ => rfl) (by simp) (by simp) (by simp) (by simp) (by omega) (fun _ => rfl) (fun n h2 => by omega)
    exact this
  · simp at h

theorem zerosB_ok (hnx : 2 ≤ c.nx) : ∀ (ds : List D) (xs : List Value), zerosB ds xs = true → ds.length = xs.length ∧ ∀ (j : Nat) d, ds[j]? = some d → V E c g w d (xs.getD j undef)
  | [], [], _ => ⟨rfl, by simp⟩
  | [], _ :: _, h => by simp [zerosB] at h
  | _ :: _, [], h => by simp [zerosB] at h
  | d :: ds, x :: xs, h => by
    simp only [zerosB, Bool.and_eq_true] at h
    obtain ⟨h1, h2⟩ := zerosB_ok hnx ds xs h.2
    refine ⟨by simp [h1], fun j e hj => ?_⟩
    cases j with
    | zero => simp at hj; subst hj; exact zeroB_ok hnx h.1
    | succ j => simpa using h2 j e (by simpa using hj)

theorem ty_zero (hE : EnvOk P E) (hnx : 2 ≤ c.nx) {t : TypeId} {i : TI} (h : E.ty t = some i) : ∃ z, (∀ w, (zeroValue t).run P w = .ok z w) ∧ z.cells.size = i.size ∧ i.zero.length = i.size ∧
    ∀ (j : Nat) d, i.zero[j]? = some d → V E c g w d (z.cells.getD j undef) := by
  obtain ⟨j, d, z, h1, h2, h3, h4, h5, h6, h7, h8, h9⟩ := tyB_spec (hE.ty t i h)
  obtain ⟨k1, k2⟩ := zerosB_ok (E := E) (c := c) (g := g) (w := w) hnx _ _ h6
  refine ⟨z, fun w => by simp [zeroValue, typeInfo, program, Sem.run_bind, Sem.run, h1, h5, Result.andThen_ok, Sem.run_pure], by rw [← h7, k1]; simp, h7, fun q d hq => ?_⟩
  have := k2 q d hq
  simpa [Array.getD_eq_getD_getElem?, List.getD] using this

theorem zip_put : ∀ (vs : List Value) (cs : Array Value) (off k : Nat), (vs.zipIdx k).foldl (fun cs (q : Value × Nat) => cs.setIfInBounds (off + q.2) q.1) cs = putArr cs (off + k) vs
  | [], _, _, _ => rfl
  | v :: vs, cs, off, k => by
    simp only [List.zipIdx_cons, List.foldl_cons, putArr]
    rw [zip_put vs _ off (k + 1)]; rfl

theorem fillD_ok {fs : List (Nat × Nat)} {place : Nat → Option (Nat × Nat)} (hp : ∀ (k : Nat) q, fs[k]? = some q → place k = some q) :
    ∀ (parts : List (Nat × D)) (ps : List (Nat × Value)) (cs : List D) (us : Array Value) (r : List D), parts.length = ps.length →
    (∀ (j : Nat) q, parts[j]? = some q → ∃ p, ps[j]? = some p ∧ p.1 = q.1 ∧ V E c g w q.2 p.2) → cs.length = us.size → (∀ (j : Nat) d, cs[j]? = some d → V E c g w d (us.getD j undef)) →
    fillD fs cs parts = some r → ∃ vs, Instr.fill place us ps = some vs ∧ r.length = vs.size ∧ ∀ (j : Nat) d, r[j]? = some d → V E c g w d (vs.getD j undef)
  | [], [], cs, us, r, _, _, hl, hv, h => by
    obtain rfl := Option.some.inj h
    exact ⟨us, rfl, hl, hv⟩
  | [], _ :: _, _, _, _, h, _, _, _, _ => by simp at h
  | _ :: _, [], _, _, _, h, _, _, _, _ => by simp at h
  | (i, x) :: parts, (i', y) :: ps, cs, us, r, hlen, hq, hl, hv, h => by
    obtain ⟨p, hp0, hpi, hpv⟩ := hq 0 (i, x) rfl
    simp at hp0
    subst hp0
    simp only at hpi hpv
    subst hpi
    unfold fillD at h
    split at h
    · rename_i off size hf
      split at h
      · rename_i hc
        obtain ⟨vs, v1, v2, v3, v4⟩ := cells_ok hpv hc.2.1
        have hz : y.cells.size = size := by rw [v1]; simp [← v2, hc.1]
        unfold Instr.fill
        rw [hp _ _ hf]
        simp only
        have hcond : ¬ ((decide (y.cells.size ≠ size) || decide (off + y.cells.size > us.size)) = true) := by
          simp [hz]; omega
        rw [if_neg (by simpa using hcond)]
        have hfold : y.cells.zipIdx.foldl (fun cs (q : Value × Nat) => cs.setIfInBounds (off + q.2) q.1) us = putArr us off vs := by
          rw [v1]
          have := zip_put vs us off 0
          rw [← Array.foldl_toList]
          simpa using this
        have e : (y.cells.zipIdx.foldl (fun cs (x : Value × Nat) => match x with | (c, j) => cs.setIfInBounds (off + j) c) us) = putArr us off vs := hfold
        rw [e]
        refine fillD_ok hp parts ps _ _ r (by simpa using hlen) (fun j q hj => by simpa using hq (j + 1) q (by simpa using hj)) ?_ ?_ h
        · rw [putCells_length, putArr_size, hl]
        · exact put_rel (R := V E c g w) _ vs cs us off v2 v3 (by omega) (by omega) hv
      · simp at h
    · simp at h

theorem ty_struct (hE : EnvOk P E) {t : TypeId} {i : TI} (h : E.ty t = some i) (hk : i.kind = .struct) : ∃ fs, P.underlying t = some (.struct fs) ∧ fieldsB P fs.toList i.fields = true ∧ i.agg = true := by
  obtain ⟨j, d, z, h1, h2, h3, h4, h5, h6, h7, h8, h9⟩ := tyB_spec (hE.ty t i h)
  unfold kindB at h8; rw [hk] at h8
  cases d <;> simp at h8
  exact ⟨_, h2, h8.2, h8.1⟩

theorem places_mapM : ∀ (fs : List Field) (qs : List (Nat × Nat)), fieldsB P fs qs = true → (fs.mapM fun f => do pure (f.offset, ← sizeOf f.type) : Sem (List (Nat × Nat))).run P w = .ok qs w
  | [], [], _ => rfl
  | [], _ :: _, h => by simp [fieldsB] at h
  | _ :: _, [], h => by simp [fieldsB] at h
  | f :: fs, q :: qs, h => by
    simp only [fieldsB, Bool.and_eq_true, beq_iff_eq] at h
    obtain ⟨⟨h1, h2⟩, h3⟩ := h
    split at h2
    · rename_i j hj
      have hs : (sizeOf f.type).run P w = .ok q.2 w := by
        simp [sizeOf, typeInfo, program, Sem.run_bind, Sem.run, hj, Result.andThen_ok, Sem.run_pure]
        simpa using h2
      simp only [List.mapM_cons, Sem.run_bind, hs, Result.andThen_ok, Sem.run_pure, places_mapM fs qs h3, h1]
    · simp at h2

theorem buildD_ok (hE : EnvOk P E) (hI : Inv E c g w) {t : TypeId} {i : TI} (ht : E.ty t = some i) {parts : List (Nat × D)} {ps : Array (Nat × Value)} {r : List D} (hl : parts.length = ps.size)
    (hq : ∀ (j : Nat) q, parts[j]? = some q → ∃ p, ps[j]? = some p ∧ p.1 = q.1 ∧ V E c g w q.2 p.2) (h : buildD E i parts = some r) :
    ∃ v, (Instr.build t ps).run P w = .ok v w ∧ V E c g w (.agg r) v := by
  obtain ⟨z, z1, z2, z3, z4⟩ := ty_zero (E := E) (c := c) (g := g) (w := w) hE hI.nx ht
  have hq' : ∀ (j : Nat) q, parts[j]? = some q → ∃ p, ps.toList[j]? = some p ∧ p.1 = q.1 ∧ V E c g w q.2 p.2 := by
    intro j q hj; simpa using hq j q hj
  unfold buildD at h
  split at h
  case h_2 => simp at h
  rename_i pl hpl
  unfold placesD at hpl
  split at hpl
  · rename_i n e hk
    have hu := ty_arr hE ht hk
    split at hpl
    · rename_i j hj
      obtain rfl := Option.some.inj hpl
      obtain ⟨vs, f1, f2, f3⟩ := fillD_ok (E := E) (c := c) (g := g) (w := w) (place := fun i => some (i * j.size, j.size)) (fun k q hq => by
        simp only [List.getElem?_map, Option.map_eq_some_iff] at hq
        obtain ⟨x, hx, rfl⟩ := hq
        obtain ⟨_, rfl⟩ := List.getElem?_eq_some_iff.1 hx
        simp) parts ps.toList i.zero z.cells r (by simpa using hl) hq' (by rw [z3, z2]) z4 h
      refine ⟨.agg vs, ?_, ?_⟩
      · unfold Instr.build
        simp only [Sem.run_bind, z1, Result.andThen_ok, run_underlying hu, ty_size hE hj, f1, Sem.run_pure]
      · have := V.agg (E := E) (c := c) (g := g) (w := w) (cs := r) (vs := vs.toList) (by simpa using f2) (fun q d hd => by
          have := f3 q d hd
          simpa [Array.getD_eq_getD_getElem?, List.getD] using this)
        simpa using this
    · simp at hpl
  · rename_i hk
    obtain rfl := Option.some.inj hpl
    obtain ⟨fs, hu, hf, ha⟩ := ty_struct hE ht hk
    obtain ⟨vs, f1, f2, f3⟩ := fillD_ok (E := E) (c := c) (g := g) (w := w) (place := fun k => i.fields.toArray[k]?) (fun k q hq => by simpa using hq) parts ps.toList i.zero z.cells r (by simpa using hl) hq' (by rw [z3, z2]) z4 h
    refine ⟨.agg vs, ?_, ?_⟩
    · unfold Instr.build
      simp only [Sem.run_bind, z1, Result.andThen_ok, run_underlying hu]
      have : (fs.mapM fun f => do pure (f.offset, ← sizeOf f.type) : Sem (Array (Nat × Nat))).run P w = .ok i.fields.toArray w := by
        rw [Array.mapM_eq_mapM_toList]
        have := places_mapM (P := P) (w := w) fs.toList i.fields hf
        rw [show (List.toArray <$> (fs.toList.mapM fun f => do pure (f.offset, ← sizeOf f.type)) : Sem (Array (Nat × Nat))) = (do let l ← (fs.toList.mapM fun f => do pure (f.offset, ← sizeOf f.type)); pure l.toArray) from rfl]
        simp only [Sem.run_bind, this, Result.andThen_ok, Sem.run_pure]
      simp only [this, Result.andThen_ok, f1, Sem.run_pure]
    · have := V.agg (E := E) (c := c) (g := g) (w := w) (cs := r) (vs := vs.toList) (by simpa using f2) (fun q d hd => by
        have := f3 q d hd
        simpa [Array.getD_eq_getD_getElem?, List.getD] using this)
      simpa using this
  · simp at hpl

/-! A new block that stays as it is. -/
def Gh.addS (g : Gh) (b : Nat) : Gh := { g with S := fun k j => g.S k j ∨ k = b }

theorem stable_ok {w' : World} (hI : Inv E c g w) (hos : w'.os = w.os) (ht : w'.tape = w.tape) (ho : w'.output = w.output) (hs : w.heap.size < w'.heap.size)
    (hb : ∀ k, k < w.heap.size → w'.heap[k]? = w.heap[k]?) : Evo g c w (g.addS w.heap.size) c w' ∧ Inv E c (g.addS w.heap.size) w' := by
  have e0 : Evo g c w g c w' := evo_grow hI hos ht ho (by omega) hb
  have i0 : Inv E c g w' := inv_grow hI e0 hb
  have e1 : Evo g c w (g.addS w.heap.size) c w' := { e0 with
    base := rfl
    mb := rfl
    mbb := hI.mb
    S := fun _ _ h => .inl h
    S' := fun b j h => by
      rcases h with h | h
      · exact .inl h
      · exact .inr (by rw [h]; exact hI.base)
    io := fun _ _ => rfl
    tk := fun _ n _ h => ⟨n, h, Nat.le_refl _, fun _ => ⟨rfl, fun _ _ => rfl⟩⟩ }
  refine ⟨e1, ?_⟩
  constructor
  · exact hI.mb
  · exact i0.base
  · exact i0.nx
  · intro s o h
    obtain ⟨h1, h2, h3, ⟨cs, T, h4, h5, h6⟩, h7⟩ := hI.hp s o h
    refine ⟨h1, h2, by show g.io s < _; omega, ⟨cs, T, (hb _ h3).trans h4, h5, fun j d hj => (h6 j d hj).mono e1⟩, fun j hS => ?_⟩
    rcases hS with hS | hS
    · exact h7 j hS
    · exact absurd hS (by show ¬ g.io s = _; omega)
  · exact i0.inj
  · intro k n h
    obtain ⟨h1, h2, h3⟩ := hI.tk k n h
    refine ⟨h1, h2, fun b hbe => ?_⟩
    obtain ⟨a1, a2, ⟨cs, T, a3, a4⟩, a5⟩ := h3 b hbe
    refine ⟨a1, by omega, ⟨cs, T, (hb _ a2).trans a3, a4⟩, fun j hS => ?_⟩
    rcases hS with hS | hS
    · exact a5 j hS
    · omega
  · exact i0.tinj
  · exact i0.apart
  · intro b j h
    rcases h with h | h
    · exact Nat.lt_trans (hI.S b j h) hs
    · omega
  · intro n cs h
    obtain ⟨h1, h2⟩ := hI.gl n cs h
    refine ⟨h1, fun j d hj => ?_⟩
    obtain ⟨x, h3, h4, h5⟩ := h2 j d hj
    exact ⟨x, (e1.cell n j h5).trans h3, h4.mono e1, .inl h5⟩
  · exact hI.one

theorem rep_len (l : List D) : ∀ n : Nat, ((List.range n).flatMap fun _ => l).length = n * l.length
  | 0 => by simp
  | n + 1 => by rw [List.range_succ, List.flatMap_append, List.length_append, rep_len l n]; simp [Nat.add_mul]

theorem rep_get {l : List D} : ∀ (n q : Nat) (d : D), ((List.range n).flatMap fun _ => l)[q]? = some d → l[q % l.length]? = some d ∧ q < n * l.length := by
  intro n
  induction n with
  | zero => intro q d h; simp at h
  | succ n ih =>
    intro q d h
    rw [List.range_succ, List.flatMap_append] at h
    have hlen := rep_len l n
    by_cases hq : q < n * l.length
    · rw [List.getElem?_append_left (by rw [hlen]; exact hq)] at h
      obtain ⟨h1, h2⟩ := ih q d h
      exact ⟨h1, by rw [Nat.add_mul]; omega⟩
    · rw [List.getElem?_append_right (by rw [hlen]; omega), hlen] at h
      simp at h
      have hl : q - n * l.length < l.length := (List.getElem?_eq_some_iff.1 h).1
      refine ⟨?_, by rw [Nat.add_mul]; omega⟩
      have : q % l.length = q - n * l.length := by
        have e : q = (q - n * l.length) + n * l.length := by omega
        rw [e, Nat.add_mul_mod_self_right, Nat.mod_eq_of_lt hl]; omega
      rw [this]; exact h

end
end Go.Den

namespace Go.Den
open Go.RowKit
section
variable {P : Program} {E : Env} {c : CS} {g : Gh} {w : World}

theorem ty_one (hE : EnvOk P E) {t : TypeId} {i : TI} (h : E.ty t = some i) (ha : i.agg = false) : i.size = 1 := by
  obtain ⟨j, d, z, h1, h2, h3, h4, h5, h6, h7, h8, h9⟩ := tyB_spec (hE.ty t i h)
  exact (h9 ha).1

theorem mod_get {z : Array Value} {n q : Nat} (h : q < n) : ((Array.range n).map fun i => z[i % z.size]!)[q]? = some (z[q % z.size]!) := by simp [h]

/-- A slice that lies in a new block alone. -/
theorem V.sl_new (hnx : 2 ≤ c.nx) {k : Nat} (hk : k < 2) {i : TI} {cs : List D} {vs : Array Value} {len cap : Nat} {b : Nat} {T : TypeId} {fz : Nat × Nat} (hb : w.heap[b]? = some (.cells vs T fz)) (hS : ∀ j, g.S b j)
    (hone : i.agg = false → i.size = 1 ∧ ∀ d ∈ cs, d.cells = [d]) (hcs : len * i.size ≤ cs.length) (hcv : len * i.size ≤ vs.size)
    (hv : ∀ (j : Nat) d, cs[j]? = some d → V E c g w d (vs.getD j undef)) (hcap : len ≤ cap) (h1 : k = 1 → cap = len) :
    V E c g w (.sl k i.size (chunk i.size i.agg len cs)) (.slice (some ⟨b, 0, none⟩) len cap) := by
  have hlen := chunk_length i.size i.agg len cs
  have hg := chunk_get i.size i.agg (fun h => (hone h).1) len cs hcs (fun h => (hone h).2)
  have := V.sl_mk (E := E) (c := c) (g := g) (w := w) (k := k) (z := i.size) (l := chunk i.size i.agg len cs) (some ⟨b, 0, none⟩) cap (fun q => vs.getD q undef)
    (by omega) (by simp) (fun q d hq => ?_) (fun _ => ⟨_, rfl, rfl⟩) (fun q j d x hq hj ad ha => ?_) hk hnx (by rw [hlen]; exact h1)
  · rwa [hlen] at this
  · have h1 := hg q d hq
    rw [h1.1]
    have : (q + 1) * i.size ≤ len * i.size := Nat.mul_le_mul_right _ (by omega)
    rw [Nat.add_mul] at this
    simp; omega
  · obtain rfl := Option.some.inj ha
    have h1 := hg q d hq
    rw [h1.1, List.getElem?_take] at hj
    split at hj
    · rename_i hjz
      rw [List.getElem?_drop] at hj
      have hlt : q * i.size + j < vs.size := by
        have : (q + 1) * i.size ≤ len * i.size := Nat.mul_le_mul_right _ (by omega)
        rw [Nat.add_mul] at this
        omega
      refine ⟨?_, hS _, hv _ _ hj⟩
      rw [cell_at hb]
      simp [Array.getD_eq_getD_getElem?, hlt]
    · simp at hj

theorem fillD_one : ∀ (fs : List (Nat × Nat)) (parts : List (Nat × D)) (cs r : List D), fillD fs cs parts = some r → (∀ q ∈ parts, ∀ d ∈ q.2.cells, d.cells = [d]) → (∀ d ∈ cs, d.cells = [d]) → ∀ d ∈ r, d.cells = [d]
  | fs, [], cs, r, h, _, hc => by obtain rfl := Option.some.inj h; exact hc
  | fs, (i, x) :: parts, cs, r, h, hp, hc => by
    unfold fillD at h
    split at h
    · split at h
      · refine fillD_one fs parts _ r h (fun q hq => hp q (by simp [hq])) ?_
        have : ∀ (xs cs : List D) (off : Nat), (∀ d ∈ xs, d.cells = [d]) → (∀ d ∈ cs, d.cells = [d]) → ∀ d ∈ putCells cs off xs, d.cells = [d] := by
          intro xs
          induction xs with
          | nil => intro cs off _ h2; exact h2
          | cons y ys ih =>
            intro cs off h1 h2
            refine ih _ _ (fun d hd => h1 d (by simp [hd])) (fun d hd => ?_)
            rcases List.mem_or_eq_of_mem_set hd with hd | hd
            · exact h2 d hd
            · subst hd; exact h1 d (by simp)
        exact this _ _ _ (hp (i, x) (by simp)) hc
      · simp at h
    · simp at h

theorem fillD_cellB : ∀ (fs : List (Nat × Nat)) (parts : List (Nat × D)) (cs r : List D), fillD fs cs parts = some r → ∀ q ∈ parts, q.2.cells.all D.cellB = true
  | fs, [], cs, r, h, q, hq => by simp at hq
  | fs, (i, x) :: parts, cs, r, h, q, hq => by
    unfold fillD at h
    split at h
    · split at h
      · rename_i hc
        rcases List.mem_cons.1 hq with hq | hq
        · subst hq; exact hc.2.1
        · exact fillD_cellB fs parts _ r h q hq
      · simp at h
    · simp at h

theorem zeroB_cells {d : D} {x : Value} (h : zeroB d x = true) : d.cells = [d] := by
  unfold zeroB at h
  split at h <;> first | rfl | simp at h

theorem zeros_one : ∀ (ds : List D) (xs : List Value), zerosB ds xs = true → ∀ d ∈ ds, d.cells = [d]
  | [], _, _, d, hd => by simp at hd
  | _ :: _, [], h, _, _ => by simp [zerosB] at h
  | d :: ds, x :: xs, h, e, he => by
    simp only [zerosB, Bool.and_eq_true] at h
    rcases List.mem_cons.1 he with he | he
    · subst he; exact zeroB_cells h.1
    · exact zeros_one ds xs h.2 e he

theorem ty_zero_one (hE : EnvOk P E) {t : TypeId} {i : TI} (h : E.ty t = some i) : ∀ d ∈ i.zero, d.cells = [d] := by
  obtain ⟨j, d, z, h1, h2, h3, h4, h5, h6, h7, h8, h9⟩ := tyB_spec (hE.ty t i h)
  exact zeros_one _ _ h6

theorem buildSliceD_ok (hE : EnvOk P E) (hI : Inv E c g w) {t e : TypeId} {i : TI} (hu : P.underlying t = some (.slice e)) (hi : E.ty e = some i) {len : Nat} {parts : List (Nat × D)} {ps : Array (Nat × Value)} {r : List D} (hl : parts.length = ps.size)
    (hq : ∀ (j : Nat) q, parts[j]? = some q → ∃ p, ps[j]? = some p ∧ p.1 = q.1 ∧ V E c g w q.2 p.2) (h : buildSliceD i len parts = some r) :
    ∃ v w' g', (Instr.buildSlice t len ps).run P w = .ok v w' ∧ V E c g' w' (.sl 1 i.size (chunk i.size i.agg len r)) v ∧ Inv E c g' w' ∧ Evo g c w g' c w' := by
  unfold buildSliceD at h
  split at h
  case isFalse => simp at h
  rename_i hc
  obtain ⟨z, z1, z2, z3, z4⟩ := ty_zero (E := E) (c := c) (g := g) (w := w) hE hI.nx hi
  have hq' : ∀ (j : Nat) q, parts[j]? = some q → ∃ p, ps.toList[j]? = some p ∧ p.1 = q.1 ∧ V E c g w q.2 p.2 := by
    intro j q hj; simpa using hq j q hj
  have hrl := rep_len i.zero len
  have hzc : z.cells.size = i.size := z2
  obtain ⟨vs, f1, f2, f3⟩ := fillD_ok (E := E) (c := c) (g := g) (w := w) (place := fun k => some (k * i.size, i.size)) (fun k q hq => by
      simp only [List.getElem?_map, Option.map_eq_some_iff] at hq
      obtain ⟨x, hx, rfl⟩ := hq
      obtain ⟨_, rfl⟩ := List.getElem?_eq_some_iff.1 hx
      simp) parts ps.toList _ ((Array.range (len * i.size)).map fun q => z.cells[q % z.cells.size]!) r (by simpa using hl) hq' (by rw [hrl, z3]; simp)
      (fun j d hj => by
        obtain ⟨h1, h2⟩ := rep_get len j d hj
        rw [z3] at h1 h2
        have h3 := z4 _ d h1
        rw [← hzc] at h3
        have e1 : ((Array.range (len * i.size)).map fun q => z.cells[q % z.cells.size]!).getD j undef = z.cells[j % z.cells.size]! := by
          simp [Array.getD_eq_getD_getElem?, h2]
        rw [e1]
        have h4 : j % z.cells.size < z.cells.size := Nat.mod_lt _ (by rw [hzc]; exact hc.1)
        rw [Array.getD_eq_getD_getElem?, Array.getElem?_eq_getElem h4] at h3
        simpa [h4] using h3) h
  have hvs : vs.size = len * i.size := by
    have : ∀ (fs : List (Nat × Nat)) (parts : List (Nat × D)) (cs r : List D), fillD fs cs parts = some r → r.length = cs.length := by
      intro fs parts
      induction parts with
      | nil => intro cs r h; obtain rfl := Option.some.inj h; rfl
      | cons q qs ih =>
        intro cs r h
        obtain ⟨i, x⟩ := q
        unfold fillD at h
        split at h
        · split at h
          · rw [ih _ _ h, putCells_length]
          · simp at h
        · simp at h
    rw [← f2, this _ _ _ _ h, hrl, z3]
  have hr : r.length = len * i.size := by rw [f2, hvs]
  refine ⟨.slice (some ⟨w.heap.size, 0, none⟩) len len, w.alloc (.cells vs e), g.addS w.heap.size, ?_, ?_, ?_⟩
  · unfold Instr.buildSlice
    simp only [Sem.run_bind, run_underlying hu, Result.andThen_ok, ty_size hE hi]
    have h1 : ¬ (len * i.size > 2 ^ 24) := by omega
    simp only [if_neg h1]
    by_cases h0 : len * i.size = 0
    · have hlen0 : len = 0 := by
        rcases Nat.mul_eq_zero.1 h0 with h | h
        · exact h
        · omega
      subst hlen0
      simp only [Nat.zero_mul, if_true, Sem.run_bind, Sem.run_pure, Result.andThen_ok] at f1 ⊢
      have e0 : Array.range 0 = #[] := rfl
      simp only [e0, Array.map_empty] at f1 ⊢
      rw [f1]
      rfl
    · simp only [if_neg h0, Sem.run_bind, z1, Sem.run_pure, Result.andThen_ok, f1]
      rfl
  · have hst := stable_ok (w' := w.alloc (.cells vs e)) hI rfl rfl rfl (by rw [size_alloc]; omega) (fun k h => heap_alloc_lt w _ h)
    refine V.sl_new hst.2.nx (by omega) (heap_alloc_eq w _) (fun j => .inr rfl) (fun ha => ⟨ty_one hE hi ha, fillD_one _ _ _ _ h (fun q hq => cellB_one (fillD_cellB _ _ _ _ h q hq)) (fun d hd => ?_)⟩) (by omega) (by omega) (fun j d hj => (f3 j d hj).mono hst.1) (Nat.le_refl _) (fun _ => rfl)
    simp only [List.mem_flatMap] at hd
    obtain ⟨_, _, hd⟩ := hd
    exact ty_zero_one hE hi d hd
  · have hst := stable_ok (w' := w.alloc (.cells vs e)) hI rfl rfl rfl (by rw [size_alloc]; omega) (fun k h => heap_alloc_lt w _ h)
    exact ⟨hst.2, hst.1⟩

theorem allocD_ok (hE : EnvOk P E) (hI : Inv E c g w) {e : TypeId} {i : TI} (hi : E.ty e = some i) (old : Value) :
    ∃ v w' g', (Instr.alloc e true old).run P w = .ok v w' ∧ V E (c.new ⟨e, i.zero⟩) g' w' (.ptr c.nx 0) v ∧ Inv E (c.new ⟨e, i.zero⟩) g' w' ∧ Evo g c w g' (c.new ⟨e, i.zero⟩) w' := by
  obtain ⟨z, z1, z2, z3, z4⟩ := ty_zero (E := E) (c := c) (g := g) (w := w) hE hI.nx hi
  obtain ⟨h1, h2⟩ := new_ok (e := e) (T := e) hI (ds := i.zero) (vs := z.cells) (ty_zero_one hE hi) (by omega) z4
  refine ⟨.pointer (some ⟨w.heap.size, 0, none⟩), w.alloc (.cells z.cells e), g.setIo c.nx w.heap.size, ?_, ?_, h2, h1⟩
  · unfold Instr.alloc
    simp only [Sem.run_bind, z1, Result.andThen_ok]
    rfl
  · have := V.ptr (E := E) (c := c.new ⟨e, i.zero⟩) (g := g.setIo c.nx w.heap.size) (w := w.alloc (.cells z.cells e)) (s := c.nx) (off := 0) (by simp [CS.new])
    simpa [Gh.setIo] using this

theorem boxD_ok (hI : Inv E c g w) {e : TypeId} {d : D} {x : Value} (hx : V E c g w d x) (hc : d.cells.all D.cellB = true) :
    ∃ v w' g', (Instr.box e x).run P w = .ok v w' ∧ V E (c.new ⟨e, d.cells⟩) g' w' (.ptr c.nx 0) v ∧ Inv E (c.new ⟨e, d.cells⟩) g' w' ∧ Evo g c w g' (c.new ⟨e, d.cells⟩) w' := by
  obtain ⟨vs, v1, v2, v3, v4⟩ := cells_ok hx hc
  obtain ⟨h1, h2⟩ := new_ok (e := e) (T := e) hI (ds := d.cells) (vs := vs.toArray) (cellB_one hc) (by simp [v2]) (fun j d hj => by
    have := v3 j d hj
    simpa [Array.getD_eq_getD_getElem?, List.getD] using this)
  refine ⟨.pointer (some ⟨w.heap.size, 0, none⟩), w.alloc (.cells vs.toArray e), g.setIo c.nx w.heap.size, ?_, ?_, h2, h1⟩
  · unfold Instr.box newVar newRow
    rw [v1]; rfl
  · have := V.ptr (E := E) (c := c.new ⟨e, d.cells⟩) (g := g.setIo c.nx w.heap.size) (w := w.alloc (.cells vs.toArray e)) (s := c.nx) (off := 0) (by simp [CS.new])
    simpa [Gh.setIo] using this

theorem toBytes_ok : ∀ (l : List D) (bs : List UInt8), toBytes l = some bs → ∃ xs : List Int, l = xs.map (fun n => .v (.int .u8 n)) ∧ bs = xs.map fun n => UInt8.ofNat n.toNat
  | [], bs, h => by obtain rfl := Option.some.inj h; exact ⟨[], rfl, rfl⟩
  | d :: r, bs, h => by
    unfold toBytes at h
    split at h
    · rename_i heq; cases heq
    · rename_i n r' heq
      obtain ⟨rfl, rfl⟩ := List.cons.inj heq
      cases hr : toBytes r with
      | none => rw [hr] at h; simp at h
      | some b =>
        rw [hr] at h
        obtain rfl := Option.some.inj h
        obtain ⟨xs, h1, h2⟩ := toBytes_ok r b hr
        exact ⟨n :: xs, by simp [h1], by simp [h2]⟩
    · simp at h

theorem ty_under (hE : EnvOk P E) {t : TypeId} {i : TI} (h : E.ty t = some i) : ∃ d, P.underlying t = some d := by
  obtain ⟨j, d, z, h1, h2, h3⟩ := tyB_spec (hE.ty t i h)
  exact ⟨d, h2⟩

theorem run_markStringish {b o : Nat} {cs : Array Value} {T : TypeId} {fz : Nat × Nat} (h : w.heap[b]? = some (.cells cs T fz)) :
    (markStringish ⟨b, o, none⟩).run P w = .ok () (w.freeze ⟨b, cs.size, none⟩ 1) := by
  unfold markStringish
  have hs : (shape b).run P w = .ok (some (T, cs.size)) w := by simp [shape, Sem.run, World.shape?, h]
  simp only [Sem.run_bind, hs, Result.andThen_ok]
  rfl

theorem freeze_heap (w : World) (b n : Nat) : (w.freeze ⟨b, n, none⟩ 1).heap.size = w.heap.size ∧ (∀ k, k ≠ b → (w.freeze ⟨b, n, none⟩ 1).heap[k]? = w.heap[k]?) ∧
    ∀ cs T fz, w.heap[b]? = some (.cells cs T fz) → ∃ fz', (w.freeze ⟨b, n, none⟩ 1).heap[b]? = some (.cells cs T fz') := by
  have hf : w.freeze ⟨b, n, none⟩ 1 = { w with heap := w.heap.modify b fun
      | .cells c elem (lo, hi) => .cells c elem (if lo == hi then (n, n + 1) else (min lo n, max hi (n + 1)))
      | o => o } := rfl
  rw [hf]
  refine ⟨by simp, fun k hk => ?_, fun cs T fz h => ?_⟩
  · show (Array.modify _ _ _)[k]? = _
    rw [Array.getElem?_modify, if_neg (fun h => hk h.symm)]
  · show ∃ fz', (Array.modify _ _ _)[b]? = _
    rw [Array.getElem?_modify, if_pos rfl, h]
    obtain ⟨lo, hi⟩ := fz
    exact ⟨_, rfl⟩

/-- A string's bytes lie in a new block. -/
theorem stringToBytes_ok (hI : Inv E c g w) (e : TypeId) (s : ByteArray) :
    ∃ v w' g', (Conv.stringToBytes e s).run P w = .ok v w' ∧ V E c g' w' (.sl 0 1 (bytesD s)) v ∧ Inv E c g' w' ∧ Evo g c w g' c w' := by
  obtain ⟨cap, hcap, hch⟩ : ∃ cap, s.size ≤ cap ∧ (choose (.appendCap s.size 0 e)).run P w = .ok cap { w with drawn := w.drawn + 1 } :=
    ⟨s.size + w.tape w.drawn (.appendCap s.size 0 e) % (2 ^ 63 - s.size), by omega, rfl⟩
  let arr : Array Value := (s.data.map fun b => .int .u8 b.toNat) ++ Array.replicate (cap - s.size) (.int .u8 0)
  have hsz : arr.size = cap := by
    have : s.data.size = s.size := rfl
    simp [arr]; omega
  let w1 : World := { w with drawn := w.drawn + 1 }
  obtain ⟨fs, fo, fb⟩ := freeze_heap (w1.alloc (.cells arr e)) w.heap.size arr.size
  have hb0 : (w1.alloc (.cells arr e)).heap[w.heap.size]? = some (.cells arr e) := heap_alloc_eq w1 _
  obtain ⟨fz, hb⟩ := fb _ _ _ hb0
  have hsz1 : (w1.alloc (.cells arr e)).heap.size = w.heap.size + 1 := size_alloc w1 _
  generalize hw' : (w1.alloc (.cells arr e)).freeze ⟨w.heap.size, arr.size, none⟩ 1 = w' at fs fo hb
  have hst := stable_ok (w' := w') hI (by rw [← hw']; rfl) (by rw [← hw']; rfl) (by rw [← hw']; rfl) (by omega) (fun k h => (fo k (by omega)).trans (heap_alloc_lt w1 _ h))
  refine ⟨.slice (some ⟨w.heap.size, 0, none⟩) s.size cap, w', g.addS w.heap.size, ?_, ?_, hst.2, hst.1⟩
  · unfold Conv.stringToBytes
    have hn : (newRow e arr).run P w1 = .ok ⟨w.heap.size, 0, none⟩ (w1.alloc (.cells arr e)) := rfl
    have hm : (markStringish ⟨w.heap.size, 0, none⟩).run P (w1.alloc (.cells arr e)) = .ok () w' := by rw [run_markStringish hb0, hw']
    simp only [Sem.run_bind, hch, Result.andThen_ok]
    show (((newRow e arr).run P w1).andThen _) = _
    simp only [hn, Result.andThen_ok, hm]
    rfl
  · have hl : (bytesD s).length = s.size := by simp [bytesD]
    have := V.sl_mk (E := E) (c := c) (g := g.addS w.heap.size) (w := w') (k := 0) (z := 1) (l := bytesD s) (some ⟨w.heap.size, 0, none⟩) cap (fun q => arr.getD q undef)
      (by omega) (by simp) (fun q d hq => ?_) (fun _ => ⟨_, rfl, rfl⟩) (fun q j d x hq hj ad ha => ?_) (by omega) hI.nx (by omega)
    · rwa [hl] at this
    · simp [bytesD] at hq
      obtain ⟨b, _, rfl⟩ := hq; rfl
    · obtain rfl := Option.some.inj ha
      simp only [bytesD, List.getElem?_map, Option.map_eq_some_iff] at hq
      obtain ⟨b, hb1, rfl⟩ := hq
      cases j with
      | succ j => simp [D.cells] at hj
      | zero =>
        simp [D.cells] at hj
        subst hj
        have hlt : q < s.data.size := by
          have := (List.getElem?_eq_some_iff.1 hb1).1
          simpa using this
        have harr : arr[q]? = some (.int .u8 b.toNat) := by
          have h2 : s.data[q]? = some b := by simpa using hb1
          simp only [arr]
          rw [Array.getElem?_append_left (by simpa using hlt)]
          simp [h2]
        simp only [Nat.mul_one, Nat.add_zero, Nat.zero_add]
        refine ⟨by rw [cell_at hb, harr]; simp [Array.getD_eq_getD_getElem?, harr], .inr rfl, ?_⟩
        have : arr.getD q undef = .int .u8 b.toNat := by simp [Array.getD_eq_getD_getElem?, harr]
        rw [this]; exact .v rfl

end
end Go.Den

namespace Go.Den
open Go.RowKit
section
variable {P : Program} {E : Env} {c : CS} {g : Gh} {w : World}

theorem flat_get {z : Nat} : ∀ (l : List D), (∀ (i : Nat) d, l[i]? = some d → d.cells.length = z) → ∀ (i j : Nat) d x, l[i]? = some d → d.cells[j]? = some x → (l.flatMap D.cells)[i * z + j]? = some x
  | [], _, i, _, _, _, h, _ => by simp at h
  | e :: l, hz, i, j, d, x, hi, hj => by
    rw [List.flatMap_cons]
    have he : e.cells.length = z := hz 0 e rfl
    cases i with
    | zero =>
      simp at hi; subst hi
      have : j < e.cells.length := (List.getElem?_eq_some_iff.1 hj).1
      rw [List.getElem?_append_left (by omega)]
      simpa using hj
    | succ i =>
      simp only [List.getElem?_cons_succ] at hi
      rw [List.getElem?_append_right (by rw [he, Nat.add_mul]; omega), he]
      have := flat_get l (fun i d h => hz (i + 1) d (by simpa using h)) i j d x hi hj
      rw [show (i + 1) * z + j - z = i * z + j by rw [Nat.add_mul]; omega]
      exact this

theorem flat_len {z : Nat} : ∀ (l : List D), (∀ (i : Nat) d, l[i]? = some d → d.cells.length = z) → (l.flatMap D.cells).length = l.length * z
  | [], _ => by simp
  | e :: l, hz => by
    rw [List.flatMap_cons, List.length_append, flat_len l (fun i d h => hz (i + 1) d (by simpa using h)), hz 0 e rfl, List.length_cons, Nat.add_mul]; omega

theorem flat_inv {z : Nat} (h0 : 0 < z) : ∀ (l : List D), (∀ (i : Nat) d, l[i]? = some d → d.cells.length = z) → ∀ (q : Nat) x, (l.flatMap D.cells)[q]? = some x → ∃ d, l[q / z]? = some d ∧ d.cells[q % z]? = some x
  | [], _, q, x, h => by simp at h
  | e :: l, hz, q, x, h => by
    rw [List.flatMap_cons] at h
    have he : e.cells.length = z := hz 0 e rfl
    by_cases hq : q < z
    · rw [List.getElem?_append_left (by omega)] at h
      exact ⟨e, by simp [Nat.div_eq_of_lt hq], by rw [Nat.mod_eq_of_lt hq]; exact h⟩
    · rw [List.getElem?_append_right (by omega), he] at h
      obtain ⟨d, h1, h2⟩ := flat_inv h0 l (fun i d h => hz (i + 1) d (by simpa using h)) (q - z) x h
      refine ⟨d, ?_, ?_⟩
      · rw [show q / z = (q - z) / z + 1 by rw [← Nat.add_div_right _ h0]; congr 1; omega]
        simpa using h1
      · rw [← h2]; congr 1
        rw [show q = (q - z) + z by omega, Nat.add_mod_right]; simp

/-- What is read of a slice or a string, in any world with the same cells. -/
def SrcOk (P : Program) (E : Env) (c : CS) (g : Gh) (w : World) (size n : Nat) (y : Value) (xs : List D) : Prop :=
  ∃ us : List Value, us.length = n * size ∧ (∀ W : World, (∀ a v, w.cell? a = some v → W.cell? a = some v) → (Builtin.firstCells size n y).run P W = .ok us.toArray W) ∧
    ∀ (q : Nat) d, (xs.flatMap D.cells)[q]? = some d → V E c g w d (us.getD q undef)

theorem src_sl {k z : Nat} {l : List D} {a : Option Addr} {cap : Nat} (h0 : 0 < z) (h : V E c g w (.sl k z l) (.slice a l.length cap)) : SrcOk P E c g w z l.length (.slice a l.length cap) l := by
  cases h with
  | sl _ _ f hcap hnone hz hsome hcell hv hk h1 htok =>
  refine ⟨(List.range (l.length * z)).map fun q => f (q / z) (q % z), by simp, fun W hW => ?_, fun q d hq => ?_⟩
  · cases a with
    | none =>
      have h0 : l.length = 0 := by have := hnone rfl; omega
      simp [Builtin.firstCells, h0, Sem.run_pure]
    | some ad =>
      by_cases hl : l = []
      · subst hl
        simp [Builtin.firstCells, loadCells, loadCellsFrom, Sem.run_pure]
      · obtain ⟨ad', e, hs⟩ := hsome hl
        obtain rfl := Option.some.inj e
        have hsp : ad = ⟨ad.block, ad.off, none⟩ := by cases ad; simp at hs; subst hs; rfl
        unfold Builtin.firstCells
        simp only
        rw [hsp]
        refine run_loadCells (f := fun q => f (q / z) (q % z)) (fun q hq => ?_)
        have hi : q / z < l.length := Nat.div_lt_of_lt_mul (by rw [Nat.mul_comm]; exact hq)
        have hd : l[q / z]? = some l[q / z] := List.getElem?_eq_getElem hi
        have hm : q % z < l[q / z].cells.length := by rw [hz _ _ hd]; exact Nat.mod_lt _ h0
        have := (hcell _ _ _ _ hd (List.getElem?_eq_getElem hm) ad rfl).1
        rw [show ad.off + q / z * z + q % z = ad.off + q by rw [Nat.add_assoc]; congr 1; rw [Nat.mul_comm]; exact Nat.div_add_mod q z] at this
        exact hW _ _ this
  · obtain ⟨e, h1, h2⟩ := flat_inv h0 l hz q d hq
    have hlt : q < l.length * z := by rw [← flat_len l hz]; exact (List.getElem?_eq_some_iff.1 hq).1
    have : ((List.range (l.length * z)).map fun q => f (q / z) (q % z)).getD q undef = f (q / z) (q % z) := by apply getD_of; simp [hlt]
    rw [this]
    exact hv _ _ _ _ h1 h2

theorem src_str {s : ByteArray} : SrcOk P E c g w 1 s.size (.string s) (bytesD s) := by
  have hf : (bytesD s).flatMap D.cells = bytesD s := by
    unfold bytesD
    induction s.data.toList with
    | nil => rfl
    | cons x xs ih => simp [List.flatMap_cons, D.cells, ih]
  refine ⟨s.data.toList.map fun b => .int .u8 b.toNat, by simp, fun W _ => ?_, fun q d hq => ?_⟩
  · simp only [Builtin.firstCells, Sem.run_pure]
    congr 1
    have : (s.extract 0 s.size).data = s.data := by
      apply Array.toList_inj.1
      have := Lib.extract_toList s 0 s.size
      rw [ByteArray.toList_eq] at this
      rw [this]
      rw [List.drop_zero, Nat.sub_zero]
      exact List.take_of_length_le (Nat.le_refl _)
    rw [this]
    apply Array.toList_inj.1; simp
  · rw [hf] at hq
    simp only [bytesD, List.getElem?_map, Option.map_eq_some_iff] at hq
    obtain ⟨b, hb, rfl⟩ := hq
    have : (s.data.toList.map fun b => Value.int .u8 b.toNat).getD q undef = .int .u8 b.toNat := by apply getD_of; simp [hb]
    rw [this]; exact .v rfl

theorem chunk_flat (z : Nat) (a : Bool) (hz : a = false → z = 1) : ∀ (n : Nat) (cs : List D), n * z ≤ cs.length → (a = false → ∀ d ∈ cs, d.cells = [d]) → (chunk z a n cs).flatMap D.cells = cs.take (n * z)
  | 0, _, _, _ => by simp [chunk]
  | n + 1, cs, hl, h1 => by
    have hl' : n * z + z ≤ cs.length := by rw [Nat.add_mul] at hl; omega
    simp only [chunk, List.flatMap_cons]
    rw [chunk_flat z a hz n (cs.drop z) (by simp; omega) (fun ha d hd => h1 ha d (List.mem_of_mem_drop hd))]
    have e : (if a then D.agg (cs.take z) else cs.headD .dead).cells = cs.take z := by
      cases a with
      | true => simp [D.cells]
      | false =>
        have := hz rfl
        subst this
        cases cs with
        | nil => simp at hl'
        | cons x xs => simp [h1 rfl x (by simp)]
    rw [e, Nat.add_mul, Nat.one_mul, Nat.add_comm, List.take_add]

theorem convD_ok (hE : EnvOk P E) (hI : Inv E c g w) {src dst : TypeId} {dx r : D} {x : Value} (hx : V E c g w dx x) (h : convD E src dst dx = some r) :
    ∃ v w' g', (convert src dst x).run P w = .ok v w' ∧ V E c g' w' r v ∧ Inv E c g' w' ∧ Evo g c w g' c w' := by
  unfold convD at h
  split at h
  · rename_i k s0 b0 a0 f0 z0 k' n hty
    obtain ⟨rfl, _⟩ := hx.v_inv
    have hu := ty_int hE hty rfl
    cases hs : E.ty src with
    | none => rw [hs] at h; simp at h
    | some i =>
      rw [hs] at h
      obtain rfl := Option.some.inj h
      obtain ⟨d, hd⟩ := ty_under hE hs
      refine ⟨_, w, g, ?_, .v rfl, hI, .refl hI.mb _ _⟩
      unfold convert
      simp only [Sem.run_bind, run_underlying hd, run_underlying hu, Result.andThen_ok]
      cases d <;> rfl
  · rename_i s0 b0 a0 f0 z0 s hty
    obtain ⟨rfl, _⟩ := hx.v_inv
    have hu := ty_str hE hty rfl
    cases hs : E.ty src with
    | none => rw [hs] at h; simp at h
    | some i =>
      rw [hs] at h
      obtain rfl := Option.some.inj h
      obtain ⟨d, hd⟩ := ty_under hE hs
      refine ⟨_, w, g, ?_, .v rfl, hI, .refl hI.mb _ _⟩
      unfold convert
      simp only [Sem.run_bind, run_underlying hd, run_underlying hu, Result.andThen_ok]
      cases d <;> rfl
  · rename_i e s0 b0 a0 f0 z0 s hty
    obtain ⟨rfl, _⟩ := hx.v_inv
    have hu := ty_slice hE hty rfl
    split at h
    · rename_i i j1 j2 j3 j4 j5 hs he
      obtain rfl := Option.some.inj h
      obtain ⟨d, hd⟩ := ty_under hE hs
      have hue := ty_int hE he rfl
      obtain ⟨v, w', g', h1, h2⟩ := stringToBytes_ok (P := P) hI e s
      refine ⟨v, w', g', ?_, h2⟩
      rw [← h1]
      unfold convert
      simp only [Sem.run_bind, run_underlying hd, run_underlying hu, Result.andThen_ok]
      cases d <;> (simp only [Sem.run_bind, run_underlying hue, Result.andThen_ok])
    · simp at h
  · rename_i s0 b0 a0 f0 z0 k l hty
    have hu := ty_str hE hty rfl
    split at h
    · rename_i e _ _ _ _ _ hs
      have hus := ty_slice hE hs rfl
      split at h
      · rename_i j1 j2 j3 j4 j5 bs he hb
        obtain rfl := Option.some.inj h
        have hue := ty_int hE he rfl
        obtain ⟨xs, rfl, rfl⟩ := toBytes_ok l bs hb
        cases hx with
        | sl a cap f hcap hnone hz hsome hcell hv hk h1 htok =>
        have hr : strOfNums xs = ⟨(xs.map fun n => UInt8.ofNat n.toNat).toArray⟩ := rfl
        refine ⟨.string (strOfNums xs), w, g, ?_, .v rfl, hI, .refl hI.mb _ _⟩
        cases a with
        | none =>
          have h0 : xs = [] := by
            have := hnone rfl
            simp at hcap
            exact List.eq_nil_of_length_eq_zero (by omega)
          subst h0
          exact run_convert_bytes_nil w src e hus hue _ _ dst hu
        | some ad =>
          by_cases hl : xs = []
          · subst hl
            have := run_convert_bytes_string (P := P) w src dst e (some ad) 0 cap hus hue hu
            simp only [List.map_nil, List.length_nil]
            rw [this]
            have h2 := run_bytesToString (P := P) w ad 0 cap [] (by simp [loadCells, loadCellsFrom, Sem.run_pure])
            rw [h2]; rfl
          · obtain ⟨ad', e', hs'⟩ := hsome (by simpa using hl)
            obtain rfl := Option.some.inj e'
            have hsp : ad = ⟨ad.block, ad.off, none⟩ := by cases ad; simp at hs'; subst hs'; rfl
            rw [hsp]
            refine run_convert_bytes_arg w src e hus hue ad.block ad.off _ cap xs (by simp) (fun i hi => ?_) dst hu
            simp only [List.length_map] at hi
            have hd : (xs.map fun n => D.v (.int .u8 n))[i]? = some (.v (.int .u8 xs[i])) := by simp [hi]
            have h2 := (hcell i 0 _ (.v (.int .u8 xs[i])) hd rfl ad rfl).1
            have h3 := (hv i 0 _ (.v (.int .u8 xs[i])) hd rfl).v_inv.1
            rw [h3] at h2
            rw [getD_of (List.getElem?_eq_getElem hi)]
            simpa using h2
      · simp at h
    · simp at h
  · simp at h

end
end Go.Den

namespace Go.Den
open Go.RowKit
section
variable {P : Program} {E : Env} {c : CS} {g : Gh} {w : World}

def Gh.grow (g : Gh) (q b n : Nat) : Gh := { g with S := fun k j => g.S k j ∨ (k = b ∧ j < n), be := fun t => if t = q then some b else g.be t, hw := fun t => if t = b then n else g.hw t }

/-- A table with a new end for one stamp. -/
def CS.grow (c : CS) (q n : Nat) (nx : Nat) : CS := { c with tk := upd c.tk q (some n), nx := nx }

theorem grow_ok (hI : Inv E c g w) {w' : World} {q b m N nx : Nat} {cs : Array Value} {T : TypeId} (hos : w'.os = w.os) (ht : w'.tape = w.tape) (ho : w'.output = w.output)
    (hs : w.heap.size ≤ w'.heap.size) (hbs : b < w'.heap.size) (hbase : g.base ≤ b) (hk : ∀ k, k < w.heap.size → k ≠ b → w'.heap[k]? = w.heap[k]?) (hb : w'.heap[b]? = some (.cells cs T (0, 0)))
    (hN : N ≤ cs.size) (hnx : c.nx ≤ nx) (hq2 : 2 ≤ q) (hqn : q < nx) (hq : c.nx ≤ q ∨ ∃ n, c.tk q = some n ∧ n < m)
    (hnew : w.heap.size ≤ b ∨ (c.tk q ≠ none ∧ q < c.nx ∧ g.be q = some b ∧ bsz w' b = bsz w b ∧ ∀ j, g.S b j → w'.cell? ⟨b, j, none⟩ = w.cell? ⟨b, j, none⟩ ∧ j < N)) :
    Evo g c w (g.grow q b N) (c.grow q m nx) w' ∧ Inv E (c.grow q m nx) (g.grow q b N) w' := by
  have hbe : ∀ k n b', c.tk k = some n → g.be k = some b' → k ≠ q → b' ≠ b := by
    intro k n b' h1 h2 h3 h4
    subst h4
    rcases hnew with h | ⟨a1, a2, a3, _⟩
    · have := ((hI.tk k n h1).2.2 b' h2).2.1; omega
    · cases htq : c.tk q with
      | none => exact a1 htq
      | some m' => exact h3 (hI.tinj k q n m' b' h1 htq h2 a3)
  have hio : ∀ s o, c.hp s = some o → g.io s ≠ b := by
    intro s o h1 h2
    rcases hnew with h | ⟨a1, a2, a3, _⟩
    · have := (hI.hp s o h1).2.2.1; omega
    · cases htq : c.tk q with
      | none => exact a1 htq
      | some m' => exact hI.apart q m' b s o htq a3 h1 h2
  have hcell : ∀ k j, g.S k j → w'.cell? ⟨k, j, none⟩ = w.cell? ⟨k, j, none⟩ := by
    intro k j h1
    by_cases e : k = b
    · subst e
      rcases hnew with h | ⟨_, _, _, _, h⟩
      · have := hI.S k j h1; omega
      · exact (h j h1).1
    · exact cell_of (hk k (hI.S k j h1) e)
  have ev : Evo g c w (g.grow q b N) (c.grow q m nx) w' :=
    { base := rfl
      mb := rfl
      mbb := hI.mb
      os := hos
      tape := ht
      output := ho
      size := hs
      low := fun k h => hk k (Nat.lt_of_lt_of_le h hI.base) (by omega)
      S := fun _ _ h => .inl h
      S' := fun k j h => by
        rcases h with h | ⟨h, _⟩
        · exact .inl h
        · exact .inr (by rw [h]; exact hbase)
      cell := hcell
      nx := hnx
      io := fun _ _ => rfl
      tk := fun k n' hkn h => by
        by_cases e : k = q
        · subst e
          rcases hq with h1 | ⟨n, h1, h2⟩
          · omega
          · simp only [CS.grow, upd, if_true] at h
            obtain rfl := Option.some.inj h
            exact ⟨n, h1, by omega, fun e => by omega⟩
        · simp only [CS.grow, upd, if_neg e] at h
          refine ⟨n', h, Nat.le_refl _, fun _ => ⟨by simp [Gh.grow, e], fun b' hb' => ?_⟩⟩
          have := hbe k n' b' h hb' e
          simp [Gh.grow, this]
      hp := fun s o hsn h => ⟨o, h, rfl, rfl⟩
      bsz := fun k hkl => by
        by_cases e : k = b
        · subst e
          rcases hnew with h | ⟨_, _, _, h, _⟩
          · omega
          · exact h
        · exact bsz_of (hk k hkl e) }
  refine ⟨ev, ?_⟩
  constructor
  · exact hI.mb
  · exact Nat.le_trans hI.base hs
  · exact Nat.le_trans hI.nx hnx
  · intro s o h
    obtain ⟨h1, h2, h3, ⟨cs', T', h4, h5, h6⟩, h7⟩ := hI.hp s o h
    refine ⟨Nat.lt_of_lt_of_le h1 hnx, h2, Nat.lt_of_lt_of_le h3 hs, ⟨cs', T', (hk _ h3 (hio s o h)).trans h4, h5, fun j d hj => (h6 j d hj).mono ev⟩, fun j hS => ?_⟩
    rcases hS with hS | ⟨hS, _⟩
    · exact h7 j hS
    · exact hio s o h hS
  · exact hI.inj
  · intro k n h
    by_cases e : k = q
    · subst e
      refine ⟨hq2, hqn, fun b' hb' => ?_⟩
      simp only [Gh.grow, if_true] at hb'
      obtain rfl := Option.some.inj hb'
      refine ⟨hbase, hbs, ⟨cs, T, hb, by simpa [Gh.grow] using hN⟩, fun j hS => ?_⟩
      simp only [Gh.grow, if_true]
      rcases hS with hS | ⟨_, hS⟩
      · rcases hnew with h | ⟨_, _, _, _, h⟩
        · have := hI.S b j hS; omega
        · exact (h j hS).2
      · exact hS
    · simp only [CS.grow, upd, if_neg e] at h
      obtain ⟨h1, h2, h3⟩ := hI.tk k n h
      refine ⟨h1, Nat.lt_of_lt_of_le h2 hnx, fun b' hb' => ?_⟩
      simp only [Gh.grow, if_neg e] at hb'
      obtain ⟨a1, a2, ⟨cs', T', a3, a4⟩, a5⟩ := h3 b' hb'
      have hne := hbe k n b' h hb' e
      refine ⟨a1, Nat.lt_of_lt_of_le a2 hs, ⟨cs', T', (hk _ a2 hne).trans a3, by simpa [Gh.grow, hne] using a4⟩, fun j hS => ?_⟩
      simp only [Gh.grow, if_neg hne]
      rcases hS with hS | ⟨hS, _⟩
      · exact a5 j hS
      · exact absurd hS hne
  · intro k k' n n' b' h h' hb1 hb2
    by_cases e : k = q <;> by_cases e' : k' = q
    · rw [e, e']
    · exfalso
      simp only [CS.grow, upd, if_neg e'] at h'
      simp only [Gh.grow, if_neg e', if_pos e] at hb1 hb2
      obtain rfl := Option.some.inj hb1
      exact hbe k' n' _ h' hb2 e' rfl
    · exfalso
      simp only [CS.grow, upd, if_neg e] at h
      simp only [Gh.grow, if_neg e, if_pos e'] at hb1 hb2
      obtain rfl := Option.some.inj hb2
      exact hbe k n _ h hb1 e rfl
    · simp only [CS.grow, upd, if_neg e, if_neg e'] at h h'
      simp only [Gh.grow, if_neg e, if_neg e'] at hb1 hb2
      exact hI.tinj k k' n n' b' h h' hb1 hb2
  · intro k n b' s o h hb' hh
    by_cases e : k = q
    · simp only [Gh.grow, if_pos e] at hb'
      obtain rfl := Option.some.inj hb'
      exact hio s o hh
    · simp only [CS.grow, upd, if_neg e] at h
      simp only [Gh.grow, if_neg e] at hb'
      exact hI.apart k n b' s o h hb' hh
  · intro k j h
    rcases h with h | ⟨h, _⟩
    · exact Nat.lt_of_lt_of_le (hI.S k j h) hs
    · rw [h]; exact hbs
  · intro n cs' h
    obtain ⟨h1, h2⟩ := hI.gl n cs' h
    refine ⟨h1, fun j d hj => ?_⟩
    obtain ⟨x, h3, h4, h5⟩ := h2 j d hj
    exact ⟨x, (hcell n j h5).trans h3, h4.mono ev, .inl h5⟩
  · exact hI.one

/-- The grown slice. -/
theorem grow_V {c' : CS} {g' : Gh} {w' : World} {q b z cap : Nat} {l : List D} {cs : Array Value} {T : TypeId} {fz : Nat × Nat} (hb : w'.heap[b]? = some (.cells cs T fz)) (hbl : b < w'.heap.size)
    (hz : ∀ (i : Nat) d, l[i]? = some d → d.cells.length = z) (hcs : cs.size = cap * z) (hcap : l.length ≤ cap)
    (hv : ∀ (j : Nat) d, (l.flatMap D.cells)[j]? = some d → V E c' g' w' d (cs.getD j undef)) (hS : ∀ j, j < l.length * z → g'.S b j) (hqn : q < c'.nx) (hq2 : 2 ≤ q)
    (htk : c'.tk q = some l.length) (hbe : g'.be q = some b) (hhw : g'.hw b = l.length * z) :
    V E c' g' w' (.sl q z l) (.slice (some ⟨b, 0, none⟩) l.length cap) := by
  refine .sl _ cap (fun i j => cs.getD (i * z + j) undef) hcap (by simp) hz (fun _ => ⟨_, rfl, rfl⟩) (fun i j d x hi hj ad ha => ?_) (fun i j d x hi hj => hv _ _ (flat_get l hz i j d x hi hj)) hqn (by omega) (fun n h2 hn => ?_)
  · obtain rfl := Option.some.inj ha
    have hlt : i * z + j < l.length * z := by rw [← flat_len l hz]; exact (List.getElem?_eq_some_iff.1 (flat_get l hz i j d x hi hj)).1
    have hlc : i * z + j < cs.size := by
      rw [hcs]; exact Nat.lt_of_lt_of_le hlt (Nat.mul_le_mul_right _ hcap)
    simp only [Nat.zero_add]
    exact ⟨by rw [cell_at hb]; simp [Array.getD_eq_getD_getElem?, hlc], hS _ hlt⟩
  · rw [htk] at hn
    obtain rfl := Option.some.inj hn
    exact ⟨Nat.le_refl _, fun _ => .inr ⟨b, hbe, rfl, hhw, by rw [bsz_at hb, hcs], hbl⟩⟩

theorem nextcap_le (need old : Nat) (h : old < need) : Builtin.nextslicecap need old ≤ 2 * need + 1024 := by
  unfold Builtin.nextslicecap
  split
  · omega
  · split
    · omega
    · have key : ∀ (r c : Nat), c ≤ 2 * need → Builtin.growBy need r c ≤ 2 * need + 1024 := by
        intro r
        induction r with
        | zero => intro c hc; simp [Builtin.growBy]; omega
        | succ r ih =>
          intro c hc
          simp only [Builtin.growBy]
          split
          · omega
          · apply ih; omega
      exact key 4 old (by omega)

theorem zeroCells_size (z : Array Value) (n : Nat) : (Builtin.zeroCells z n).size = n * z.size := by simp [Builtin.zeroCells]

theorem run_askRoom (n : Nat) : (askRoom n).run P w = .ok () w := by
  unfold askRoom; split <;> rfl

/-- The two ways of an append, run. -/
theorem run_append_new {t t2 ty e : TypeId} {i : TI} {a : Option Addr} {len cap n : Nat} {y z : Value} {us0 us1 : List Value} (hu : P.underlying t = some (.slice e)) (hE : EnvOk P E) (hi : E.ty e = some i)
    (hu2 : ∃ d, P.underlying t2 = some d ∧ (∀ k, d ≠ .int k)) (hn : (Builtin.lenOf y).run P w = .ok n w) (hz : ∀ w, (zeroValue e).run P w = .ok z w) (hzs : z.cells.size = i.size)
    (hroom : (len + n) * (i.bytes + 1) ≤ maxRoom) (hgt : cap < len + n)
    (h0 : ∀ d, (Builtin.firstCells i.size len (.slice a len cap)).run P { w with drawn := d } = .ok us0.toArray { w with drawn := d })
    (h1 : ∀ d, (Builtin.firstCells i.size n y).run P { w with drawn := d } = .ok us1.toArray { w with drawn := d }) (hl0 : us0.length = len * i.size) (hl1 : us1.length = n * i.size) :
    ∃ cap' vs, len + n ≤ cap' ∧ (Builtin.append_ #[t, t2] ty #[.slice a len cap, y]).run P w = .ok (.slice (some ⟨w.heap.size, 0, none⟩) (len + n) cap') ({ w with drawn := w.drawn + 1 }.alloc (.cells vs e)) ∧
      vs.size = cap' * i.size ∧ (∀ j, j < us0.length → vs[j]? = us0[j]?) ∧ (∀ j, j < us1.length → vs[us0.length + j]? = us1[j]?) := by
  obtain ⟨d2, hd2, hint⟩ := hu2
  obtain ⟨j0, dd, zz, k1, k2, k3, k4, k5, k6, k7, k8, k9⟩ := tyB_spec (hE.ty e i hi)
  have hti : ∀ w, (typeInfo e).run P w = .ok j0 w := fun w => by simp [typeInfo, program, Sem.run_bind, Sem.run, k1, Result.andThen_ok, Sem.run_pure]
  obtain ⟨cap', hcap', hch⟩ : ∃ cap', len + n ≤ cap' ∧ (choose (.appendCap (len + n) cap e)).run P w = .ok cap' { w with drawn := w.drawn + 1 } :=
    ⟨(len + n) + w.tape w.drawn (.appendCap (len + n) cap e) % (2 ^ 63 - (len + n)), by omega, rfl⟩
  have hb0 : (len + n) ≤ (len + n) * (i.bytes + 1) := Nat.le_mul_of_pos_right _ (by omega)
  unfold maxRoom at hroom
  refine ⟨cap', us0.toArray ++ us1.toArray ++ Builtin.zeroCells z.cells (cap' - (len + n)), hcap', ?_, ?_, ?_, ?_⟩
  · unfold Builtin.append_
    simp only [List.getElem?_toArray, List.getElem?_cons_zero, List.getElem?_cons_succ, Sem.run_bind, run_underlying hu, Result.andThen_ok, ty_size hE hi, run_underlying hd2]
    have hm : (match d2 with | .int _ => true | _ => false) = false := by
      cases d2 <;> first | rfl | exact absurd rfl (hint _)
    simp only [hm, Sem.run_bind, Sem.run_pure, Result.andThen_ok, Bool.false_eq_true, if_false, hn, Bool.not_false, if_true]
    rw [if_neg (by omega)]
    have hb1 : ¬ ((((len + n : Nat) : Int) > IntKind.i64.max) ∧ (False ∨ j0.bytes = 0)) := by
      have : IntKind.i64.max = 9223372036854775807 := by decide
      omega
    have hb2 : ¬ (Builtin.nextslicecap (len + n) cap * j0.bytes > 2 ^ 48) := by
      have h3 := nextcap_le (len + n) cap hgt
      have h4 : Builtin.nextslicecap (len + n) cap * j0.bytes ≤ (2 * (len + n) + 1024) * j0.bytes := Nat.mul_le_mul_right _ h3
      rw [k4] at h4 ⊢
      have h5 : (2 * (len + n) + 1024) * i.bytes ≤ 2 * ((len + n) * (i.bytes + 1)) + 1024 * i.bytes := by
        rw [Nat.add_mul, Nat.mul_assoc]
        have : (len + n) * i.bytes ≤ (len + n) * (i.bytes + 1) := Nat.mul_le_mul_left _ (by omega)
        omega
      have h6 : i.bytes ≤ (len + n) * (i.bytes + 1) := by
        have : 1 * (i.bytes + 1) ≤ (len + n) * (i.bytes + 1) := Nat.mul_le_mul_right _ (by omega)
        omega
      omega
    simp only [Sem.run_bind, hti, Result.andThen_ok, if_neg hb1, if_neg hb2, Sem.run_pure, hch, run_askRoom, h0, h1, hz]
    rfl
  · simp [zeroCells_size, hl0, hl1, hzs, ← Nat.add_mul]
    congr 1; omega
  · intro j hj
    rw [Array.getElem?_append_left (by simp; omega), Array.getElem?_append_left (by simpa using hj)]
    simp
  · intro j hj
    rw [Array.getElem?_append_left (by simp; omega), Array.getElem?_append_right (by simp)]
    simp

theorem run_append_room {t t2 ty e : TypeId} {i : TI} {len cap n b o T : Nat} {y : Value} {us1 : List Value} {cs : Array Value} (hu : P.underlying t = some (.slice e)) (hE : EnvOk P E) (hi : E.ty e = some i)
    (hu2 : ∃ d, P.underlying t2 = some d ∧ (∀ k, d ≠ .int k)) (hn : (Builtin.lenOf y).run P w = .ok n w) (hle : len + n ≤ cap)
    (h1 : (Builtin.firstCells i.size n y).run P w = .ok us1.toArray w) (hb : w.heap[b]? = some (.cells cs T (0, 0))) (ho : o + len * i.size + us1.length ≤ cs.size) (h1c : ∀ v ∈ us1, oneCell v = true) :
    (Builtin.append_ #[t, t2] ty #[.slice (some ⟨b, o, none⟩) len cap, y]).run P w = .ok (.slice (some ⟨b, o, none⟩) (len + n) cap) (setBlk w b (.cells (putArr cs (o + len * i.size) us1) T (0, 0))) := by
  obtain ⟨d2, hd2, hint⟩ := hu2
  unfold Builtin.append_
  simp only [List.getElem?_toArray, List.getElem?_cons_zero, List.getElem?_cons_succ, Sem.run_bind, run_underlying hu, Result.andThen_ok, ty_size hE hi, run_underlying hd2]
  have hm : (match d2 with | .int _ => true | _ => false) = false := by
    cases d2 <;> first | rfl | exact absurd rfl (hint _)
  simp only [hm, Sem.run_bind, Sem.run_pure, Result.andThen_ok, Bool.false_eq_true, if_false, hn, Bool.not_false, if_true]
  rw [if_pos hle]
  simp only [Sem.run_bind, h1, Result.andThen_ok, add_none]
  have := run_storeCells (P := P) (b := b) (off := o + len * i.size) (T := T) us1 0 w cs hb (by omega) h1c
  simp only [Nat.add_zero] at this
  simp only [this, Result.andThen_ok, Sem.run_pure]


theorem len_app {l xs : List D} : (l ++ xs).length = l.length + xs.length := by simp

/-- The cells of the two, one behind the other, in a block. -/
theorem two_cells {c' : CS} {g' : Gh} {w' : World} {z : Nat} {l xs : List D} {us0 us1 : List Value} {vs : Array Value} (hz : ∀ (i : Nat) d, l[i]? = some d → d.cells.length = z) (hz' : ∀ (i : Nat) d, xs[i]? = some d → d.cells.length = z)
    (hl0 : us0.length = l.length * z) (hl1 : us1.length = xs.length * z) (h0 : ∀ j, j < us0.length → vs[j]? = us0[j]?) (h1 : ∀ j, j < us1.length → vs[us0.length + j]? = us1[j]?)
    (v0 : ∀ (q : Nat) d, (l.flatMap D.cells)[q]? = some d → V E c' g' w' d (us0.getD q undef)) (v1 : ∀ (q : Nat) d, (xs.flatMap D.cells)[q]? = some d → V E c' g' w' d (us1.getD q undef)) :
    ∀ (q : Nat) d, ((l ++ xs).flatMap D.cells)[q]? = some d → V E c' g' w' d (vs.getD q undef) := by
  intro q d hq
  rw [List.flatMap_append] at hq
  have f0 := flat_len l hz
  have f1 := flat_len xs hz'
  by_cases hlt : q < l.length * z
  · rw [List.getElem?_append_left (by omega)] at hq
    have := v0 q d hq
    have e : vs.getD q undef = us0.getD q undef := by
      rw [Array.getD_eq_getD_getElem?, h0 q (by omega), List.getD]
    rw [e]; exact this
  · rw [List.getElem?_append_right (by omega)] at hq
    have := v1 _ d hq
    have hlt1 : q - (l.flatMap D.cells).length < us1.length := by
      rw [hl1, ← f1]; exact (List.getElem?_eq_some_iff.1 hq).1
    have e : vs.getD q undef = us1.getD (q - (l.flatMap D.cells).length) undef := by
      rw [Array.getD_eq_getD_getElem?]
      have := h1 _ hlt1
      rw [show us0.length + (q - (l.flatMap D.cells).length) = q by omega] at this
      rw [this, List.getD]
    rw [e]; exact this

theorem uni_app {z : Nat} {l xs : List D} (hz : ∀ (i : Nat) d, l[i]? = some d → d.cells.length = z) (hz' : ∀ (i : Nat) d, xs[i]? = some d → d.cells.length = z) : ∀ (i : Nat) d, (l ++ xs)[i]? = some d → d.cells.length = z := by
  intro i d h
  by_cases hi : i < l.length
  · rw [List.getElem?_append_left hi] at h; exact hz i d h
  · rw [List.getElem?_append_right (by omega)] at h; exact hz' _ d h

theorem V.one {d : D} {v : Value} (he : V E c g w d v) (hb : d.cellB = true) : oneCell v = true := by
  cases he <;> simp_all [D.cellB, oneCell]
  rename_i hf
  revert hf; cases v <;> simp [flatB]

theorem run_append_nil {t t2 ty e : TypeId} {i : TI} {a : Option Addr} {len cap : Nat} {y : Value} (hu : P.underlying t = some (.slice e)) (hE : EnvOk P E) (hi : E.ty e = some i)
    (hu2 : ∃ d, P.underlying t2 = some d ∧ (∀ k, d ≠ .int k)) (hn : (Builtin.lenOf y).run P w = .ok 0 w) (hle : len ≤ cap) (h1 : (Builtin.firstCells i.size 0 y).run P w = .ok #[] w) :
    (Builtin.append_ #[t, t2] ty #[.slice a len cap, y]).run P w = .ok (.slice a len cap) w := by
  obtain ⟨d2, hd2, hint⟩ := hu2
  unfold Builtin.append_
  simp only [List.getElem?_toArray, List.getElem?_cons_zero, List.getElem?_cons_succ, Sem.run_bind, run_underlying hu, Result.andThen_ok, ty_size hE hi, run_underlying hd2]
  have hm : (match d2 with | .int _ => true | _ => false) = false := by
    cases d2 <;> first | rfl | exact absurd rfl (hint _)
  simp only [hm, Sem.run_bind, Sem.run_pure, Result.andThen_ok, Bool.false_eq_true, if_false, hn, Bool.not_false, if_true, Nat.add_zero]
  rw [if_pos hle]
  simp only [Sem.run_bind, h1, Result.andThen_ok]
  cases a <;> rfl

/-- A new stamp, of a slice that has no block to grow in. -/
theorem mint_ok (hI : Inv E c g w) (n : Nat) : Evo g c w { g with be := fun t => if t = c.nx then none else g.be t } { c with tk := upd c.tk c.nx (some n), nx := c.nx + 1 } w ∧
    Inv E { c with tk := upd c.tk c.nx (some n), nx := c.nx + 1 } { g with be := fun t => if t = c.nx then none else g.be t } w := by
  have ev : Evo g c w { g with be := fun t => if t = c.nx then none else g.be t } { c with tk := upd c.tk c.nx (some n), nx := c.nx + 1 } w :=
    { Evo.refl (g := g) hI.mb c w with
      base := rfl
      mb := rfl
      S := fun _ _ h => h
      S' := fun _ _ h => .inl h
      nx := Nat.le_succ _
      io := fun _ _ => rfl
      tk := fun k n' hk h => by
        have hne : k ≠ c.nx := by omega
        simp only [upd, if_neg hne] at h
        exact ⟨n', h, Nat.le_refl _, fun _ => ⟨by simp [hne], fun _ _ => rfl⟩⟩
      hp := fun s o _ h => ⟨o, h, rfl, rfl⟩ }
  refine ⟨ev, ?_⟩
  constructor
  · exact hI.mb
  · exact hI.base
  · exact Nat.le_trans hI.nx (Nat.le_succ _)
  · intro s o h
    obtain ⟨h1, h2, h3, ⟨cs', T', h4, h5, h6⟩, h7⟩ := hI.hp s o h
    exact ⟨Nat.lt_succ_of_lt h1, h2, h3, ⟨cs', T', h4, h5, fun j d hj => (h6 j d hj).mono ev⟩, h7⟩
  · exact hI.inj
  · intro k m h
    by_cases e : k = c.nx
    · subst e
      exact ⟨hI.nx, Nat.lt_succ_self _, fun b hb => by simp at hb⟩
    · simp only [upd, if_neg e] at h
      obtain ⟨h1, h2, h3⟩ := hI.tk k m h
      exact ⟨h1, Nat.lt_succ_of_lt h2, fun b hb => h3 b (by simpa [e] using hb)⟩
  · intro k k' n1 n2 b h h' hb hb'
    by_cases e : k = c.nx
    · simp [e] at hb
    · by_cases e' : k' = c.nx
      · simp [e'] at hb'
      · simp only [upd, if_neg e, if_neg e'] at h h'
        exact hI.tinj k k' n1 n2 b h h' (by simpa [e] using hb) (by simpa [e'] using hb')
  · intro k m b s o h hb hs
    by_cases e : k = c.nx
    · simp [e] at hb
    · simp only [upd, if_neg e] at h
      exact hI.apart k m b s o h (by simpa [e] using hb) hs
  · exact hI.S
  · intro m cs' h
    obtain ⟨h1, h2⟩ := hI.gl m cs' h
    refine ⟨h1, fun j d hj => ?_⟩
    obtain ⟨x, h3, h4, h5⟩ := h2 j d hj
    exact ⟨x, h3, h4.mono ev, h5⟩
  · exact hI.one

/-- append, to a slice by content. -/
theorem run_append_make {t t2 ty e : TypeId} {i : TI} {a : Option Addr} {k k2 : IntKind} {n : Int} {z : Value} (hu : P.underlying t = some (.slice e)) (hE : EnvOk P E) (hi : E.ty e = some i)
    (hu2 : P.underlying t2 = some (.int k2)) (hn : 0 < n) (hz : ∀ w, (zeroValue e).run P w = .ok z w) (hzs : z.cells.size = i.size) (hpos : 0 < i.size)
    (hroom : n.toNat * (i.bytes + 1) ≤ maxRoom) (h0 : ∀ d, (Builtin.firstCells i.size 0 (.slice a 0 0)).run P { w with drawn := d } = .ok #[] { w with drawn := d }) :
    ∃ cap' vs, n.toNat ≤ cap' ∧ (Builtin.append_ #[t, t2] ty #[.slice a 0 0, .int k n]).run P w = .ok (.slice (some ⟨w.heap.size, 0, none⟩) n.toNat cap') ({ w with drawn := w.drawn + 1 }.alloc (.cells vs e)) ∧
      vs.size = cap' * i.size := by
  obtain ⟨j0, dd, zz, k1, k2', k3, k4, k5, k6, k7, k8, k9⟩ := tyB_spec (hE.ty e i hi)
  have hti : ∀ w, (typeInfo e).run P w = .ok j0 w := fun w => by simp [typeInfo, program, Sem.run_bind, Sem.run, k1, Result.andThen_ok, Sem.run_pure]
  obtain ⟨m, rfl⟩ : ∃ m : Nat, n = m := ⟨n.toNat, by omega⟩
  simp only [Int.toNat_natCast] at hroom ⊢
  obtain ⟨cap', hcap', hch⟩ : ∃ cap', m ≤ cap' ∧ (choose (.appendCap m 0 e)).run P w = .ok cap' { w with drawn := w.drawn + 1 } :=
    ⟨m + w.tape w.drawn (.appendCap m 0 e) % (2 ^ 63 - m), by omega, rfl⟩
  have hb0 : m ≤ m * (i.bytes + 1) := Nat.le_mul_of_pos_right _ (by omega)
  have hbb : m * i.bytes ≤ m * (i.bytes + 1) := Nat.mul_le_mul_left _ (by omega)
  unfold maxRoom at hroom
  have hwrap : IntKind.i64.wrap (m : Int) = m := by
    rw [IntKind.wrap_i64]; omega
  refine ⟨cap', Builtin.zeroCells z.cells m ++ Builtin.zeroCells z.cells (cap' - m), hcap', ?_, ?_⟩
  · unfold Builtin.append_
    simp only [List.getElem?_toArray, List.getElem?_cons_zero, List.getElem?_cons_succ, Sem.run_bind, run_underlying hu, Result.andThen_ok, ty_size hE hi, run_underlying hu2]
    have hb1 : ¬ ((m : Int) * (j0.bytes : Int) > 2 ^ 48) := by rw [k4]; omega
    have hasInt : (asInt (.int k (m : Int))).run P w = .ok (m : Int) w := rfl
    simp only [Sem.run_bind, Sem.run_pure, Result.andThen_ok, if_true, hasInt, hwrap]
    rw [if_neg (by omega)]
    simp only [Sem.run_bind, Sem.run_pure, Result.andThen_ok, hti]
    rw [if_neg hb1]
    simp only [Sem.run_bind, Sem.run_pure, Result.andThen_ok, Int.toNat_natCast]
    rw [if_neg (by omega)]
    have hb2 : ¬ ((((0 + m : Nat) : Int) > IntKind.i64.max) ∧ (True ∨ j0.bytes = 0)) := by
      have : IntKind.i64.max = 9223372036854775807 := by decide
      omega
    have hb3 : ¬ (Builtin.nextslicecap (0 + m) 0 * j0.bytes > 2 ^ 48) := by
      have h3 := nextcap_le (0 + m) 0 (by omega)
      have h4 : Builtin.nextslicecap (0 + m) 0 * j0.bytes ≤ (2 * (0 + m) + 1024) * j0.bytes := Nat.mul_le_mul_right _ h3
      rw [k4] at h4 ⊢
      have h5 : (2 * (0 + m) + 1024) * i.bytes ≤ 2 * (m * (i.bytes + 1)) + 1024 * i.bytes := by
        rw [Nat.add_mul, Nat.mul_assoc]
        have : (0 + m) * i.bytes ≤ m * (i.bytes + 1) := by rw [Nat.zero_add]; exact hbb
        omega
      have h6 : i.bytes ≤ m * (i.bytes + 1) := by
        have : 1 * (i.bytes + 1) ≤ m * (i.bytes + 1) := Nat.mul_le_mul_right _ (by omega)
        omega
      omega
    have hmz : ¬ m * i.size = 0 := by
      have : 1 * 1 ≤ m * i.size := Nat.mul_le_mul (by omega) hpos
      omega
    rw [Nat.zero_add] at hb2 hb3
    simp only [Sem.run_bind, hti, Result.andThen_ok, if_neg hb2, if_neg hb3, if_neg hmz, Sem.run_pure, Nat.zero_add, hch, run_askRoom, h0, hz, Bool.not_true, Bool.false_eq_true, if_false]
    rw [Array.empty_append]
    rfl
  · simp [zeroCells_size, hzs, ← Nat.add_mul]
    congr 1; omega

theorem append_sl_ok (hE : EnvOk P E) (hI : Inv E c g w) {t t2 ty e : TypeId} {i : TI} (hu : P.underlying t = some (.slice e)) (hi : E.ty e = some i) (hu2 : ∃ d, P.underlying t2 = some d ∧ (∀ k, d ≠ .int k))
    {k z : Nat} {l xs : List D} {a : Option Addr} {cap : Nat} {y : Value} (hx : V E c g w (.sl k z l) (.slice a l.length cap))
    (hn : (Builtin.lenOf y).run P w = .ok xs.length w) (hsrc : SrcOk P E c g w z xs.length y xs) (hxz : ∀ (i : Nat) d, xs[i]? = some d → d.cells.length = z)
    {r : D} {c' : CS} (h : appendD E e (.sl k z l) xs c = some (r, c')) :
    ∃ v w' g', (Builtin.append_ #[t, t2] ty #[.slice a l.length cap, y]).run P w = .ok v w' ∧ V E c' g' w' r v ∧ Inv E c' g' w' ∧ Evo g c w g' c' w' := by
  unfold appendD at h
  rw [hi] at h
  simp only at h
  split at h
  case isFalse => simp at h
  rename_i hcond
  obtain ⟨⟨hz0, hzp⟩, hroom, hall⟩ := hcond
  unfold okL at hall
  have hone : ∀ d ∈ xs.flatMap D.cells, d.cellB = true := by
    intro d hd
    obtain ⟨q, hq, hdq⟩ := List.mem_flatMap.1 hd
    exact (List.all_eq_true.1 ((List.all_eq_true.1 hall) q hq)) d hdq
  have hx0 := hx
  have hb0 := src_sl (P := P) hzp hx
  obtain ⟨us1, l1, r1, v1⟩ := hsrc
  obtain ⟨us0, l0, r0, v0⟩ := hb0
  cases hx with
  | sl _ _ f hcap hnone hz hsome hcell hv hk h1 htok =>
  subst hz0
  have hnilrun : xs = [] → (Builtin.append_ #[t, t2] ty #[.slice a l.length cap, y]).run P w = .ok (.slice a l.length cap) w := by
    intro hnil
    subst hnil
    refine run_append_nil hu hE hi hu2 hn hcap ?_
    have := r1 w (fun _ _ h => h)
    simp only [List.length_nil, Nat.zero_mul] at l1
    rw [List.eq_nil_of_length_eq_zero l1] at this
    exact this
  by_cases hnil : xs = []
  · have hrun := hnilrun hnil
    subst hnil
    simp only [List.append_nil, List.length_nil, Nat.add_zero] at h
    by_cases hk1 : k = 1
    · rw [if_pos hk1] at h
      obtain ⟨rfl, rfl⟩ := Prod.mk.inj (Option.some.inj h)
      -- a new stamp for a slice without room
      have hce := h1 hk1
      obtain ⟨e1, e2⟩ := mint_ok hI l.length
      refine ⟨_, w, _, hrun, ?_, e2, e1⟩
      exact .sl a cap f hcap hnone hz hsome hcell (fun i j d x hi hj => (hv i j d x hi hj).mono e1) (by simp) (fun _ => hce) (fun n h2 hn => ⟨by
        simp only [upd, if_true] at hn
        have := Option.some.inj hn
        omega, fun _ => .inl hce⟩)
    · rw [if_neg hk1] at h
      split at h
      case isFalse => simp at h
      rename_i hk2
      obtain ⟨rfl, rfl⟩ := Prod.mk.inj (Option.some.inj h)
      have hc : { c with tk := upd c.tk k (some l.length) } = c := by
        cases c with
        | mk hp tk nx =>
          congr 1
          funext q
          simp only [upd]
          split
          · rename_i hq; subst hq; exact hk2.2.symm
          · rfl
      rw [hc]
      exact ⟨_, w, g, hrun, hx0, hI, .refl hI.mb _ _⟩
  · have hpos : 0 < xs.length := List.length_pos_iff.2 hnil
    have hlen := len_app (l := l) (xs := xs)
    have huni := uni_app hz hxz
    obtain ⟨j0, dd, zz, k1, k2, k3, k4, k5, k6, k7, k8, k9⟩ := tyB_spec (hE.ty e i hi)
    obtain ⟨z, z1, z2, z3, z4⟩ := ty_zero (E := E) (c := c) (g := g) (w := w) hE hI.nx hi
    -- a new block
    have new : ∀ q nx', cap < l.length + xs.length → c.nx ≤ nx' → 2 ≤ q → q < nx' → (c.nx ≤ q ∨ ∃ n, c.tk q = some n ∧ n < l.length + xs.length) →
        ∃ v w' g', (Builtin.append_ #[t, t2] ty #[.slice a l.length cap, y]).run P w = .ok v w' ∧ V E (c.grow q (l.length + xs.length) nx') g' w' (.sl q i.size (l ++ xs)) v ∧ Inv E (c.grow q (l.length + xs.length) nx') g' w' ∧ Evo g c w g' (c.grow q (l.length + xs.length) nx') w' := by
      intro q nx' hgt hnx hq2 hqn hq
      obtain ⟨cap', vs, hc', hrun, hvs, e0, e1⟩ := run_append_new (ty := ty) hu hE hi hu2 hn z1 z2 hroom hgt (fun d => r0 _ (fun _ _ h => h)) (fun d => r1 _ (fun _ _ h => h)) l0 l1
      have hst := grow_ok (w' := ({ w with drawn := w.drawn + 1 } : World).alloc (.cells vs e)) (q := q) (b := w.heap.size) (m := l.length + xs.length) (N := (l.length + xs.length) * i.size) (nx := nx') (cs := vs) (T := e) hI rfl rfl rfl
        (by rw [size_alloc]; show w.heap.size ≤ w.heap.size + 1; omega) (by rw [size_alloc]; show w.heap.size < w.heap.size + 1; omega) hI.base (fun k hk _ => heap_alloc_lt _ _ hk) (heap_alloc_eq _ _) (by rw [hvs]; exact Nat.mul_le_mul_right _ hc') hnx hq2 hqn hq (.inl (Nat.le_refl _))
      refine ⟨_, _, g.grow q w.heap.size ((l.length + xs.length) * i.size), hrun, ?_, hst.2, hst.1⟩
      have := grow_V (E := E) (c' := c.grow q (l.length + xs.length) nx') (g' := g.grow q w.heap.size ((l.length + xs.length) * i.size)) (w' := ({ w with drawn := w.drawn + 1 } : World).alloc (.cells vs e)) (q := q) (b := w.heap.size) (z := i.size) (cap := cap') (l := l ++ xs)
        (cs := vs) (heap_alloc_eq _ _) (by rw [size_alloc]; show w.heap.size < w.heap.size + 1; omega) huni hvs (by omega)
        (two_cells hz hxz l0 l1 e0 e1 (fun q d hq => (v0 q d hq).mono hst.1) (fun q d hq => (v1 q d hq).mono hst.1)) (fun j hj => .inr ⟨rfl, by rw [← hlen]; exact hj⟩) hqn hq2 (by simp [CS.grow, upd, hlen]) (by simp [Gh.grow]) (by simp [Gh.grow])
      rw [hlen] at this
      exact this
    by_cases hk1 : k = 1
    · rw [if_pos hk1] at h
      obtain ⟨rfl, rfl⟩ := Prod.mk.inj (Option.some.inj h)
      have hce := h1 hk1
      exact new c.nx (c.nx + 1) (by omega) (by omega) hI.nx (by omega) (.inl (Nat.le_refl _))
    · rw [if_neg hk1] at h
      split at h
      case isFalse => simp at h
      rename_i hk2
      obtain ⟨rfl, rfl⟩ := Prod.mk.inj (Option.some.inj h)
      by_cases hgt : cap < l.length + xs.length
      · exact new k c.nx hgt (Nat.le_refl _) hk2.1 hk (.inr ⟨_, hk2.2, by omega⟩)
      · rcases (htok _ hk2.1 hk2.2).2 rfl with he | ⟨b, b1, b2, b3, b4, b5⟩
        · omega
        · subst b2
          obtain ⟨a1, a2, ⟨cs, T, a3, a4⟩, a5⟩ := (hI.tk k _ hk2.2).2.2 b b1
          have hcs : cs.size = cap * i.size := by rw [← b4, bsz_at a3]
          have hfit : (l.length + xs.length) * i.size ≤ cs.size := by rw [hcs]; exact Nat.mul_le_mul_right _ (by omega)
          have hfit' : l.length * i.size + xs.length * i.size ≤ cs.size := by rw [← Nat.add_mul]; exact hfit
          have honeV : ∀ v ∈ us1, oneCell v = true := by
            intro v hm
            obtain ⟨j, hj, rfl⟩ := List.mem_iff_getElem.1 hm
            have hjx : j < (xs.flatMap D.cells).length := by rw [flat_len xs hxz, ← l1]; exact hj
            have := v1 j _ (List.getElem?_eq_getElem hjx)
            rw [getD_of (List.getElem?_eq_getElem hj)] at this
            exact this.one (hone _ (List.getElem_mem hjx))
          have hrun := run_append_room (ty := ty) (o := 0) (T := T) (len := l.length) (cap := cap) hu hE hi hu2 hn (by omega) (r1 w (fun _ _ h => h)) a3 (by rw [l1]; omega) honeV
          have hps := putArr_size us1 cs (0 + l.length * i.size)
          have hst := grow_ok (w' := setBlk w b (.cells (putArr cs (0 + l.length * i.size) us1) T (0, 0))) (q := k) (b := b) (m := l.length + xs.length) (N := (l.length + xs.length) * i.size) (nx := c.nx) (cs := putArr cs (0 + l.length * i.size) us1) (T := T) hI rfl rfl rfl
            (by rw [setBlk_size]; exact Nat.le_refl _) (by rw [setBlk_size]; exact a2) a1 (fun q _ hq => setBlk_get_ne hq) (setBlk_get a2) (by rw [hps]; exact hfit) (Nat.le_refl _) hk2.1 hk (.inr ⟨_, hk2.2, by omega⟩)
            (.inr ⟨by rw [hk2.2]; simp, hk, b1, by rw [bsz_at (setBlk_get a2), bsz_at a3, hps], fun j hj => by
              have := a5 j hj
              rw [b3] at this
              refine ⟨?_, by rw [Nat.add_mul]; omega⟩
              rw [cell_at (setBlk_get a2), cell_at a3, putArr_get_lt _ _ _ _ (by omega)]⟩)
          refine ⟨_, _, g.grow k b ((l.length + xs.length) * i.size), hrun, ?_, hst.2, hst.1⟩
          have hold : ∀ j, j < us0.length → (putArr cs (0 + l.length * i.size) us1)[j]? = us0[j]? := by
            intro j hj
            rw [putArr_get_lt _ _ _ _ (by omega)]
            have := r0 w (fun _ _ h => h)
            -- the old cells are what is read
            have hd : j < (l.flatMap D.cells).length := by rw [flat_len l hz]; omega
            obtain ⟨d, e1, e2⟩ := flat_inv hzp l hz j _ (List.getElem?_eq_getElem hd)
            have hc := (hcell _ _ _ _ e1 e2 _ rfl).1
            simp only [Nat.zero_add] at hc
            rw [show j / i.size * i.size + j % i.size = j by rw [Nat.mul_comm]; exact Nat.div_add_mod j i.size, cell_at a3] at hc
            have hrd := run_loadCells (P := P) (w := w) (b := b) (o := 0) (n := l.length * i.size) (f := fun q => cs.getD q undef) (fun q hq => by
              rw [cell_at a3]
              have : q < cs.size := by omega
              simp [Array.getD_eq_getD_getElem?, this])
            unfold Builtin.firstCells at this
            simp only at this
            rw [hrd] at this
            have he := (Result.ok.inj this).1
            have he' : us0 = (List.range (l.length * i.size)).map fun q => cs.getD q undef := by
              have := congrArg Array.toList he
              simpa using this.symm
            rw [he']
            have hjl : j < l.length * i.size := by omega
            have hjc : j < cs.size := by omega
            simp [hjl, Array.getD_eq_getD_getElem?, hjc]
          have := grow_V (E := E) (c' := c.grow k (l.length + xs.length) c.nx) (g' := g.grow k b ((l.length + xs.length) * i.size)) (w' := setBlk w b (.cells (putArr cs (0 + l.length * i.size) us1) T (0, 0))) (q := k) (b := b) (z := i.size) (cap := cap) (l := l ++ xs)
            (cs := putArr cs (0 + l.length * i.size) us1) (setBlk_get a2) (by rw [setBlk_size]; exact a2) huni (by rw [hps]; exact hcs) (by omega)
            (two_cells hz hxz l0 l1 hold (fun j hj => by rw [l0, show l.length * i.size + j = (0 + l.length * i.size) + j by omega]; exact putArr_get _ _ _ _ (by rw [l1]; omega) hj) (fun q d hq => (v0 q d hq).mono hst.1) (fun q d hq => (v1 q d hq).mono hst.1))
            (fun j hj => .inr ⟨rfl, by rw [← hlen]; exact hj⟩) hk hk2.1 (by simp [CS.grow, upd, hlen]) (by simp [Gh.grow]) (by simp [Gh.grow])
          rw [hlen] at this
          exact this

end
end Go.Den

namespace Go.Den
open Go.RowKit
section
variable {P : Program} {E : Env} {c : CS} {g : Gh} {w : World}

theorem normL_eq : ∀ l : List D, D.normL l = l.map D.norm
  | [] => rfl
  | d :: ds => by simp [D.normL, normL_eq ds]

theorem cells_norm (d : D) : d.norm.cells = d.cells.map D.norm := by
  cases d <;> simp [D.norm, D.cells, normL_eq]

theorem V.norm {c0 : CS} {g0 : Gh} (hS : ∀ b j, g.S b j → g0.S b j) (hmb : g0.mb = g.mb) (hnx : 2 ≤ c0.nx) {d : D} {v : Value} (h : V E c g w d v) : V E c0 g0 w d.norm v := by
  induction h with
  | rm => exact .dead
  | v h => exact .v h
  | @agg cs vs h _ ih =>
    simp only [D.norm, normL_eq]
    refine .agg (by simpa using h) (fun i d hi => ?_)
    simp only [List.getElem?_map, Option.map_eq_some_iff] at hi
    obtain ⟨e, he, rfl⟩ := hi
    exact ih i e he
  | @tup cs vs h _ ih =>
    simp only [D.norm, normL_eq]
    refine .tup (by simpa using h) (fun i d hi => ?_)
    simp only [List.getElem?_map, Option.map_eq_some_iff] at hi
    obtain ⟨e, he, rfl⟩ := hi
    exact ih i e he
  | @fn f cs vs h _ ih =>
    simp only [D.norm, normL_eq]
    refine .fn (by simpa using h) (fun i d hi => ?_)
    simp only [List.getElem?_map, Option.map_eq_some_iff] at hi
    obtain ⟨e, he, rfl⟩ := hi
    exact ih i e he
  | dead => exact .dead
  | gptr => exact .gptr
  | ptr => exact .dead
  | ref => exact .dead
  | eptr => exact .dead
  | mp es clock hb hw h => exact .mp es clock (by rw [hmb]; exact hb) hw h
  | @sl k z l a cap f hcap hnone hz hsome hcell _ hk h1 htok ih =>
    simp only [D.norm, normL_eq]
    have key : ∀ (i j : Nat) d x, (l.map D.norm)[i]? = some d → d.cells[j]? = some x → ∃ d' x', l[i]? = some d' ∧ d'.cells[j]? = some x' ∧ x = x'.norm := by
      intro i j d x hi hj
      simp only [List.getElem?_map, Option.map_eq_some_iff] at hi
      obtain ⟨e, he, rfl⟩ := hi
      rw [cells_norm] at hj
      simp only [List.getElem?_map, Option.map_eq_some_iff] at hj
      obtain ⟨y, hy, rfl⟩ := hj
      exact ⟨e, y, he, hy, rfl⟩
    have := V.sl (E := E) (c := c0) (g := g0) (w := w) (k := 0) (z := z) (l := l.map D.norm) a cap f (by simpa using hcap) hnone (fun i d hi => by
        simp only [List.getElem?_map, Option.map_eq_some_iff] at hi
        obtain ⟨e, he, rfl⟩ := hi
        rw [cells_norm]; simpa using hz i e he) (fun hne => hsome (by intro h; subst h; exact hne rfl)) (fun i j d x hi hj ad ha => by
        obtain ⟨d', x', h1, h2, _⟩ := key i j d x hi hj
        have := hcell i j d' x' h1 h2 ad ha
        exact ⟨this.1, hS _ _ this.2⟩) (fun i j d x hi hj => by
        obtain ⟨d', x', h1, h2, rfl⟩ := key i j d x hi hj
        exact ih i j d' x' h1 h2) (by omega) (by omega) (fun n h2 => by omega)
    simpa using this

theorem V.S_up {g1 : Gh} (hS : ∀ b j, g.S b j → g1.S b j) (hio : g1.io = g.io) (hbe : g1.be = g.be) (hhw : g1.hw = g.hw) (hmb : g1.mb = g.mb) {d : D} {v : Value} (h : V E c g w d v) : V E c g1 w d v := by
  induction h with
  | rm a cap hcap hnone hk htok => exact .rm a cap hcap hnone hk (by rw [hbe, hhw]; exact htok)
  | v h => exact .v h
  | agg h _ ih => exact .agg h ih
  | tup h _ ih => exact .tup h ih
  | fn h _ ih => exact .fn h ih
  | dead => exact .dead
  | gptr => exact .gptr
  | ptr hs => rw [← hio]; exact .ptr hs
  | ref a cap hs h => exact .ref a cap hs (by rw [hio]; exact h)
  | eptr b o f hcell _ ih => exact .eptr b o f (fun j d hj => ⟨(hcell j d hj).1, hS _ _ (hcell j d hj).2⟩) ih
  | mp es clock hb hw h => exact .mp es clock (by rw [hmb]; exact hb) hw h
  | sl a cap f hcap hnone hz hsome hcell _ hk h1 htok ih =>
    refine .sl a cap f hcap hnone hz hsome (fun i j d x hi hj ad ha => ⟨(hcell i j d x hi hj ad ha).1, hS _ _ (hcell i j d x hi hj ad ha).2⟩) ih hk h1 (fun n h2 hn => ?_)
    rw [hbe, hhw]; exact htok n h2 hn

/-- An object's stretch by its content, where the object stays as it is from now on. -/
theorem view_ok (hE : EnvOk P E) (hI : Inv E c g w) {c0 : CS} {g0 : Gh} (hS : ∀ b j, g.S b j → g0.S b j) (hmb : g0.mb = g.mb) (hnx : 2 ≤ c0.nx) {s off len : Nat} {r : D} {x : Value}
    (hx : V E c g w (.ref s off len) x) (h : c.view E s off len = some r) (hSo : ∀ j, g0.S (g.io s) j) : V E c0 g0 w r.norm x := by
  unfold CS.view at h
  split at h
  · rename_i o ho
    split at h
    · rename_i i hi
      split at h
      · rename_i hc
        obtain rfl := Option.some.inj h
        cases hx with
        | ref a cap hs hl =>
        obtain ⟨i', e1, e2, e3, e4, e5, e6, e7⟩ := hl o ho
        rw [hi] at e1
        obtain rfl := Option.some.inj e1
        obtain ⟨_, _, k3, ⟨cs, T, k4, k5, k6⟩, _⟩ := hI.hp s o ho
        let g1 : Gh := { g with S := g0.S }
        have up : ∀ {d v}, V E c g w d v → V E c g1 w d v := fun hv => hv.S_up (g1 := g1) hS rfl rfl rfl rfl
        have hlen := chunk_length i.size i.agg len (o.cells.drop (off * i.size))
        have hdl : len * i.size ≤ (o.cells.drop (off * i.size)).length := by
          rw [List.length_drop]; rw [Nat.add_mul] at e5; omega
        have hg := chunk_get i.size i.agg (fun h => ty_one hE hi h) len (o.cells.drop (off * i.size)) hdl (fun _ d hd => hI.one s o ho d (List.mem_of_mem_drop hd))
        have hV : V E c g1 w (.sl 0 i.size (chunk i.size i.agg len (o.cells.drop (off * i.size)))) (.slice a len cap) := by
          have := V.sl_mk (E := E) (c := c) (g := g1) (w := w) (k := 0) (z := i.size) (l := chunk i.size i.agg len (o.cells.drop (off * i.size))) a cap (fun q => cs.getD (off * i.size + q) undef)
            (by omega) (fun hn => ?_) (fun q d hq => ?_) (fun hne => ?_) (fun q j d y hq hj ad ha => ?_) (by omega) hI.nx (by omega)
          · rwa [hlen] at this
          · cases hcap : cap with
            | zero => rfl
            | succ m => have := e3 (by omega); rw [hn] at this; cases this
          · have h1 := hg q d hq
            rw [h1.1]
            have : (q + 1) * i.size ≤ len * i.size := Nat.mul_le_mul_right _ (by omega)
            rw [Nat.add_mul] at this
            rw [List.length_take, List.length_drop]; omega
          · have : 0 < len := by
              cases len with
              | zero => exact absurd (by simp [chunk]) hne
              | succ n => omega
            exact ⟨_, e3 (by omega), rfl⟩
          · have h1 := hg q d hq
            have hcap : 0 < cap := by omega
            rw [e3 hcap] at ha
            obtain rfl := Option.some.inj ha
            rw [h1.1, List.getElem?_take] at hj
            split at hj
            · rw [List.getElem?_drop, List.getElem?_drop] at hj
              have hlt := (List.getElem?_eq_some_iff.1 hj).1
              have hlt' : off * i.size + (q * i.size + j) < cs.size := by omega
              refine ⟨?_, hSo _, up (k6 _ _ hj)⟩
              rw [cell_at k4]; simp [Array.getD_eq_getD_getElem?, hlt']
            · simp at hj
        exact V.norm (g := g1) (g0 := g0) (fun _ _ h => h) hmb hnx hV
      · simp at h
    · simp at h
  · simp at h

end
end Go.Den

namespace Go.Den
open Go.RowKit
section
variable {P : Program} {E : Env} {c : CS} {g : Gh} {w : World}

/-- The ghosts of a call by itself. -/
def Gh.alone (g : Gh) (w : World) (S : Nat → Nat → Prop) : Gh := ⟨S, fun _ => 0, fun _ => none, fun _ => 0, w.heap.size, g.mb⟩

theorem alone_inv (hE : EnvOk P E) (hI : Inv E c g w) {S : Nat → Nat → Prop} (h1 : ∀ b j, g.S b j → S b j) (h2 : ∀ b j, S b j → b < w.heap.size) : Inv E CS.fresh (g.alone w S) w where
  mb := Nat.le_trans hI.mb hI.base
  base := Nat.le_refl _
  nx := Nat.le_refl _
  hp := fun s o h => by simp [CS.fresh] at h
  inj := fun s s' o o' h => by simp [CS.fresh] at h
  tk := fun k n h => by simp [CS.fresh] at h
  tinj := fun k k' n n' b h => by simp [CS.fresh] at h
  apart := fun k n b s o h => by simp [CS.fresh] at h
  S := h2
  gl := fun n cs h => by
    obtain ⟨k1, k2⟩ := hI.gl n cs h
    refine ⟨Nat.lt_of_lt_of_le k1 hI.base, fun j d hj => ?_⟩
    obtain ⟨x, h3, h4, h5⟩ := k2 j d hj
    have := V.norm (c0 := CS.fresh) (g0 := g.alone w S) h1 rfl (Nat.le_refl _) h4
    rw [(hE.glOne n cs h d (List.mem_of_getElem? hj)).2] at this
    exact ⟨x, h3, this, h1 _ _ h5⟩
  one := fun s o h => by simp [CS.fresh] at h

/-- Behind a call by itself. -/
theorem alone_frame (hI : Inv E c g w) {S S2 : Nat → Nat → Prop} {g' : Gh} {c' : CS} {w' : World} (ev : Evo (g.alone w S) CS.fresh w g' c' w')
    (h2 : ∀ b j, g.S b j → S2 b j) (h2' : ∀ b j, S2 b j → g.S b j ∨ (w.heap.size ≤ b ∧ b < w'.heap.size)) : Evo g c w { g with S := S2 } c w' ∧ Inv E c { g with S := S2 } w' := by
  have hb : ∀ k, k < w.heap.size → w'.heap[k]? = w.heap[k]? := ev.low
  have e0 : Evo g c w g c w' := evo_grow hI ev.os ev.tape ev.output ev.size hb
  have i0 : Inv E c g w' := inv_grow hI e0 hb
  have e1 : Evo g c w { g with S := S2 } c w' := { e0 with
    base := rfl
    mb := rfl
    S := h2
    S' := fun b j h => by
      rcases h2' b j h with h | h
      · exact .inl h
      · exact .inr (Nat.le_trans hI.base h.1)
    io := fun _ _ => rfl
    tk := fun _ n _ h => ⟨n, h, Nat.le_refl _, fun _ => ⟨rfl, fun _ _ => rfl⟩⟩ }
  refine ⟨e1, ?_⟩
  constructor
  · exact hI.mb
  · exact i0.base
  · exact i0.nx
  · intro s o h
    obtain ⟨k1, k2, k3, ⟨cs, T, k4, k5, k6⟩, k7⟩ := hI.hp s o h
    refine ⟨k1, k2, Nat.lt_of_lt_of_le k3 ev.size, ⟨cs, T, (hb _ k3).trans k4, k5, fun j d hj => (k6 j d hj).mono e1⟩, fun j hS => ?_⟩
    rcases h2' _ _ hS with hS | hS
    · exact k7 j hS
    · exact absurd hS.1 (by show ¬ _ ≤ g.io s; omega)
  · exact i0.inj
  · intro k n h
    obtain ⟨k1, k2, k3⟩ := hI.tk k n h
    refine ⟨k1, k2, fun b hbe => ?_⟩
    obtain ⟨a1, a2, ⟨cs, T, a3, a4⟩, a5⟩ := k3 b hbe
    refine ⟨a1, Nat.lt_of_lt_of_le a2 ev.size, ⟨cs, T, (hb _ a2).trans a3, a4⟩, fun j hS => ?_⟩
    rcases h2' _ _ hS with hS | hS
    · exact a5 j hS
    · omega
  · exact i0.tinj
  · exact i0.apart
  · intro b j h
    rcases h2' _ _ h with h | h
    · exact Nat.lt_of_lt_of_le (hI.S b j h) ev.size
    · exact h.2
  · intro n cs h
    obtain ⟨k1, k2⟩ := hI.gl n cs h
    refine ⟨k1, fun j d hj => ?_⟩
    obtain ⟨x, h3, h4, h5⟩ := k2 j d hj
    exact ⟨x, (e1.cell n j h5).trans h3, h4.mono e1, h2 _ _ h5⟩
  · exact i0.one

theorem norm_not_sl {d : D} (h : ∀ k z l, d ≠ .sl k z l) : unmark1 d.norm = d.norm := by
  cases d <;> first | rfl | exact absurd rfl (h _ _ _)

/-- What comes out, without marks. -/
theorem out1_ok (hE : EnvOk P E) (hI : Inv E c g w) {c0 : CS} {g0 : Gh} (hS : ∀ b j, g.S b j → g0.S b j) (hmb : g0.mb = g.mb) (hnx : 2 ≤ c0.nx) (hSo : ∀ s o, c.hp s = some o → ∀ j, g0.S (g.io s) j)
    {d r : D} {x : Value} (hx : V E c g w d x) (h : c.out1 E d = some r) : V E c0 g0 w (unmark1 r) x := by
  unfold CS.out1 at h
  split at h
  · obtain rfl := Option.some.inj h
    exact V.norm hS hmb hnx hx
  · rename_i s off len
    cases hv : c.view E s off len with
    | none => rw [hv] at h; simp at h
    | some q =>
      rw [hv] at h
      obtain rfl := Option.some.inj h
      have hob : ∃ o, c.hp s = some o := by
        unfold CS.view at hv
        cases ho : c.hp s with
        | none => rw [ho] at hv; simp at hv
        | some o => exact ⟨o, rfl⟩
      obtain ⟨o, ho⟩ := hob
      have := view_ok hE hI (c0 := c0) (g0 := g0) hS hmb hnx hx hv (hSo s o ho)
      have hq : unmark1 q.norm = q.norm := by
        unfold CS.view at hv
        split at hv
        · split at hv
          · split at hv
            · obtain rfl := Option.some.inj hv; rfl
            · simp at hv
          · simp at hv
        · simp at hv
      rw [hq]; exact this
  · simp at h
  · rename_i n1 n2 n3
    obtain rfl := Option.some.inj h
    rw [norm_not_sl n1]
    exact V.norm hS hmb hnx hx

theorem outL_get : ∀ (ds rs : List D), c.outL E ds = some rs → rs.length = ds.length ∧ ∀ (i : Nat) r, rs[i]? = some r → ∃ d, ds[i]? = some d ∧ c.out1 E d = some r
  | [], rs, h => by obtain rfl := Option.some.inj h; exact ⟨rfl, by simp⟩
  | d :: ds, rs, h => by
    unfold CS.outL at h
    split at h
    · rename_i x xs hx hxs
      obtain rfl := Option.some.inj h
      obtain ⟨h1, h2⟩ := outL_get ds xs hxs
      refine ⟨by simp [h1], fun i r hi => ?_⟩
      cases i with
      | zero => simp at hi; subst hi; exact ⟨d, rfl, hx⟩
      | succ i => simpa using h2 i r (by simpa using hi)
    · simp at h

theorem out_ok (hE : EnvOk P E) (hI : Inv E c g w) {c0 : CS} {g0 : Gh} (hS : ∀ b j, g.S b j → g0.S b j) (hmb : g0.mb = g.mb) (hnx : 2 ≤ c0.nx) (hSo : ∀ s o, c.hp s = some o → ∀ j, g0.S (g.io s) j)
    {d r : D} {x : Value} (hx : V E c g w d x) (h : c.out E d = some r) : V E c0 g0 w (unmark r) x := by
  unfold CS.out at h
  split at h
  · rename_i cs
    obtain ⟨vs, rfl, hl, hv⟩ := hx.agg_inv
    cases ho : c.outL E cs with
    | none => rw [ho] at h; simp at h
    | some rs =>
      rw [ho] at h
      obtain rfl := Option.some.inj h
      obtain ⟨h1, h2⟩ := outL_get _ _ ho
      refine .agg (by simp [h1, hl]) (fun i q hq => ?_)
      simp only [List.getElem?_map, Option.map_eq_some_iff] at hq
      obtain ⟨r, hr, rfl⟩ := hq
      obtain ⟨d, hd, hdr⟩ := h2 i r hr
      exact out1_ok hE hI hS hmb hnx hSo (hv i d hd) hdr
  · rename_i cs
    obtain ⟨vs, rfl, hl, hv⟩ := hx.tup_inv
    cases ho : c.outL E cs with
    | none => rw [ho] at h; simp at h
    | some rs =>
      rw [ho] at h
      obtain rfl := Option.some.inj h
      obtain ⟨h1, h2⟩ := outL_get _ _ ho
      refine .tup (by simp [h1, hl]) (fun i q hq => ?_)
      simp only [List.getElem?_map, Option.map_eq_some_iff] at hq
      obtain ⟨r, hr, rfl⟩ := hq
      obtain ⟨d, hd, hdr⟩ := h2 i r hr
      exact out1_ok hE hI hS hmb hnx hSo (hv i d hd) hdr
  · rename_i n1 n2
    have := out1_ok hE hI hS hmb hnx hSo hx h
    have hr : unmark r = unmark1 r := by
      have key : (∀ cs, r ≠ .agg cs) ∧ (∀ cs, r ≠ .tup cs) := by
        unfold CS.out1 at h
        split at h
        · obtain rfl := Option.some.inj h; simp
        · rename_i s off len
          cases hv : c.view E s off len with
          | none => rw [hv] at h; simp at h
          | some q =>
            rw [hv] at h
            obtain rfl := Option.some.inj h
            unfold CS.view at hv
            split at hv
            · split at hv
              · split at hv
                · obtain rfl := Option.some.inj hv; simp [D.norm]
                · simp at hv
              · simp at hv
            · simp at hv
        · simp at h
        · obtain rfl := Option.some.inj h
          cases d <;> simp_all [D.norm]
      cases r <;> first | rfl | exact absurd rfl (key.1 _) | exact absurd rfl (key.2 _)
    rw [hr]; exact this

/-- The arguments by content. -/
theorem args_norm {c0 : CS} {g0 : Gh} (hS : ∀ b j, g.S b j → g0.S b j) (hmb : g0.mb = g.mb) (hnx : 2 ≤ c0.nx) {args : List D} {vs : List Value} (h : ∀ (i : Nat) d, args[i]? = some d → V E c g w d (vs.getD i undef)) :
    ∀ (i : Nat) d, (args.map D.norm)[i]? = some d → V E c0 g0 w d (vs.getD i undef) := by
  intro i d hi
  simp only [List.getElem?_map, Option.map_eq_some_iff] at hi
  obtain ⟨e, he, rfl⟩ := hi
  exact V.norm hS hmb hnx (h i e he)

theorem V.unmark1 (hnx : 2 ≤ c.nx) {d : D} {x : Value} (h : V E c g w d x) : V E c g w (unmark1 d) x := by
  cases h with
  | sl a cap f hcap hnone hz hsome hcell hv hk h1 htok => exact .sl a cap f hcap hnone hz hsome hcell hv (by omega) (by omega) (fun n h2 => by omega)
  | rm a cap hcap hnone hk htok => exact .rm a cap hcap hnone hk htok
  | v h => exact .v h
  | agg h hv => exact .agg h hv
  | tup h hv => exact .tup h hv
  | fn h hv => exact .fn h hv
  | dead => exact .dead
  | gptr => exact .gptr
  | ptr h => exact .ptr h
  | ref a cap hs h => exact .ref a cap hs h
  | eptr b o f h hv => exact .eptr b o f h hv
  | mp es clock hb hw h => exact .mp es clock hb hw h

theorem V.unmark (hnx : 2 ≤ c.nx) {d : D} {x : Value} (h : V E c g w d x) : V E c g w (unmark d) x := by
  have h0 := h
  cases d with
  | agg cs =>
    obtain ⟨vs, rfl, hl, hv⟩ := h.agg_inv
    refine .agg (by simpa using hl) (fun i q hq => ?_)
    simp only [List.getElem?_map, Option.map_eq_some_iff] at hq
    obtain ⟨r, hr, rfl⟩ := hq
    exact (hv i r hr).unmark1 hnx
  | tup cs =>
    obtain ⟨vs, rfl, hl, hv⟩ := h.tup_inv
    refine .tup (by simpa using hl) (fun i q hq => ?_)
    simp only [List.getElem?_map, Option.map_eq_some_iff] at hq
    obtain ⟨r, hr, rfl⟩ := hq
    exact (hv i r hr).unmark1 hnx
  | _ => exact h0.unmark1 hnx

theorem pcall_ok (hE : EnvOk P E) {call : CallF} (hc : CallOk P E call) {f : FuncId} {args : List D} {r : D} (h : pcall E call f args = some r) : HasBody P f ∧ ∀ {c g w} {vs : List Value}, Inv E c g w →
    args.length = vs.length → (∀ (i : Nat) d, args[i]? = some d → V E c g w d (vs.getD i undef)) →
    Calls P f vs.toArray w fun e w' => ∃ x g', e = .returned x ∧ V E c g' w' (unmark r) x ∧ Inv E c g' w' ∧ Evo g c w g' c w' := by
  unfold pcall at h
  split at h
  · rename_i d c' hcall
    obtain ⟨hb, hok⟩ := hc _ _ _ _ _ hcall
    refine ⟨hb, fun {c g w vs} hI hl hv => ?_⟩
    refine (hok (g.alone w g.S) w vs (alone_inv hE hI (fun _ _ h => h) hI.S) (by simpa using hl) (args_norm (g := g) (c := c) (c0 := CS.fresh) (g0 := g.alone w g.S) (fun _ _ h => h) rfl (Nat.le_refl _) hv)).mono ?_
    rintro e w' ⟨x, g', rfl, hx, hI', hev⟩
    have hfr := alone_frame (S2 := fun b j => g.S b j ∨ (w.heap.size ≤ b ∧ b < w'.heap.size)) hI hev (fun _ _ h => .inl h) (fun _ _ h => h)
    refine ⟨x, _, rfl, ?_, hfr.2, hfr.1⟩
    refine out_ok (g0 := { g with S := fun b j => g.S b j ∨ (w.heap.size ≤ b ∧ b < w'.heap.size) }) hE hI' (fun b j hS => ?_) hev.mb.symm hI.nx (fun s o ho j => ?_) hx h
    · rcases hev.S' b j hS with hS' | hS'
      · exact .inl hS'
      · exact .inr ⟨hS', hI'.S b j hS⟩
    · obtain ⟨_, k2, k3, _⟩ := hI'.hp s o ho
      rw [hev.base] at k2
      exact .inr ⟨k2, k3⟩
  · simp at h

theorem snapL_get : ∀ (ds rs : List D), snapL E c ds = some rs → rs.length = ds.length ∧ ∀ (i : Nat) r, rs[i]? = some r → ∃ d, ds[i]? = some d ∧ c.snap E d = some r
  | [], rs, h => by obtain rfl := Option.some.inj h; exact ⟨rfl, by simp⟩
  | d :: ds, rs, h => by
    unfold snapL at h
    split at h
    · rename_i x xs hx hxs
      obtain rfl := Option.some.inj h
      obtain ⟨h1, h2⟩ := snapL_get ds xs hxs
      refine ⟨by simp [h1], fun i r hi => ?_⟩
      cases i with
      | zero => simp at hi; subst hi; exact ⟨d, rfl, hx⟩
      | succ i => simpa using h2 i r (by simpa using hi)
    · simp at h

theorem flat_any {c0 : CS} {g0 : Gh} {w0 : World} {d : D} {x : Value} (h : V E c g w d x) (hf : flatD d = true) : V E c0 g0 w0 d x := by
  have one : ∀ e : D, (match e with | .v _ => true | _ => false) = true → ∀ y, V E c g w e y → V E c0 g0 w0 e y := by
    intro e he y hy
    cases e <;> simp at he
    obtain ⟨rfl, hfl⟩ := hy.v_inv
    exact .v hfl
  cases d with
  | v a => obtain ⟨rfl, hfl⟩ := h.v_inv; exact .v hfl
  | agg cs =>
    obtain ⟨vs, rfl, hl, hv⟩ := h.agg_inv
    refine .agg hl (fun i q hq => one q ?_ _ (hv i q hq))
    simp only [flatD, List.all_eq_true] at hf
    exact hf q (List.mem_of_getElem? hq)
  | tup cs =>
    obtain ⟨vs, rfl, hl, hv⟩ := h.tup_inv
    refine .tup hl (fun i q hq => one q ?_ _ (hv i q hq))
    simp only [flatD, List.all_eq_true] at hf
    exact hf q (List.mem_of_getElem? hq)
  | _ => simp [flatD] at hf

theorem callD_ok (hE : EnvOk P E) {call : CallF} (hc : CallOk P E call) {m : CMode} (hm : m ≠ .snap) {t : TypeId} {f : FuncId} {args : List D} {r : D} {c c' : CS} (h : callD E call m t f args c = some (r, c')) : HasBody P f ∧ ∀ {g w} {vs : List Value}, Inv E c g w →
    args.length = vs.length → (∀ (i : Nat) d, args[i]? = some d → V E c g w d (vs.getD i undef)) →
    Calls P f vs.toArray w fun e w' => ∃ x g', e = .returned x ∧ V E c' g' w' r x ∧ Inv E c' g' w' ∧ Evo g c w g' c' w' := by
  unfold callD at h
  split at h
  · cases hp : pcall E call f args with
    | none => rw [hp] at h; simp at h
    | some q =>
      rw [hp] at h
      obtain ⟨rfl, rfl⟩ := Prod.mk.inj (Option.some.inj h)
      obtain ⟨hb, hok⟩ := pcall_ok hE hc hp
      exact ⟨hb, fun hI hl hv => hok hI hl hv⟩
  · obtain ⟨hb, hok⟩ := hc _ _ _ _ _ h
    exact ⟨hb, fun hI hl hv => hok _ _ _ hI hl hv⟩
  · exact absurd rfl hm
  · simp at h

end
end Go.Den

namespace Go.Den
open Go.RowKit
section
variable {P : Program} {E : Env} {c : CS} {g : Gh} {w : World}

theorem wp_value {o : Oper} {a : Act} {w w' : World} {v : Value} {next : Act → World → Prop} {Q : Exit → Act → World → Prop} (h : (execOp a.eval o).run P w = .ok (.value v) w') (hn : next (a.put o.dst v) w') : o.wp P a w next Q := by
  unfold Oper.wp; rw [h]; exact hn

theorem wp_unit {o : Oper} {a : Act} {w w' : World} {next : Act → World → Prop} {Q : Exit → Act → World → Prop} (h : (execOp a.eval o).run P w = .ok .skip w') (hn : next (a.put o.dst undef) w') : o.wp P a w next Q := by
  unfold Oper.wp; rw [h]; exact hn

theorem run_v {s : Sem Value} {w w' : World} {x : Value} (h : s.run P w = .ok x w') : (do pure (Next.value (← s)) : Sem Next).run P w = .ok (.value x) w' := by
  simp only [Sem.run_bind, h, Result.andThen_ok, Sem.run_pure]

theorem opd_ok {s : St} {a : Act} (hR : Rel E g s a w) (z : Nat) (x : Operand) : V E s.cs g w (s.opd z x) (a.eval x) := by
  have hnx := hR.inv.nx
  cases x with
  | tmp t =>
    simp only [St.opd, Act.eval]
    cases h : s.sl[t]? with
    | none =>
      have : s.sl.getD t .dead = .dead := by rw [List.getD, h]; rfl
      rw [this]; exact .dead
    | some d => rw [getD_of h]; exact hR.slot t d h
  | const v =>
    simp only [St.opd, Act.eval]
    unfold ofConst
    split
    · have := V.sl (E := E) (c := s.cs) (g := g) (w := w) (k := 1) (z := z) (l := []) none 0 (fun _ _ => undef) (Nat.le_refl _) (fun _ => rfl) (by simp) (by simp) (by simp) (by simp) (by omega) (fun _ => rfl) (fun n h2 => by omega)
      exact this
    · split
      · rename_i h; exact .v h
      · exact .dead
  | global n => exact .gptr
  | func f => exact .fn (vs := []) rfl (by simp)

theorem argL_ok {s : St} {a : Act} (hR : Rel E g s a w) : ∀ (ts : List TypeId) (xs : List Operand), (argL E s ts xs).length = xs.length ∧ ∀ (i : Nat) d, (argL E s ts xs)[i]? = some d → V E s.cs g w d ((xs.map a.eval).getD i undef)
  | _, [] => ⟨rfl, by simp [argL]⟩
  | ts, x :: xs => by
    obtain ⟨h1, h2⟩ := argL_ok hR ts.tail xs
    refine ⟨by simp [argL, h1], fun i d hi => ?_⟩
    cases i with
    | zero =>
      simp [argL] at hi
      subst hi
      simpa using opd_ok hR _ x
    | succ i => simpa using h2 i d (by simpa [argL] using hi)

theorem parts_ok {s : St} {a : Act} (hR : Rel E g s a w) (parts : Array (Nat × Operand)) : ∀ (j : Nat) q, (parts.toList.map fun q => (q.1, s.opd 0 q.2))[j]? = some q → ∃ p, (parts.map fun (i, x) => (i, a.eval x))[j]? = some p ∧ p.1 = q.1 ∧ V E s.cs g w q.2 p.2 := by
  intro j q hq
  simp only [List.getElem?_map, Option.map_eq_some_iff] at hq
  obtain ⟨r, hr, rfl⟩ := hq
  have : parts[j]? = some r := by simpa using hr
  exact ⟨(r.1, a.eval r.2), by simp [this], rfl, opd_ok hR 0 r.2⟩

theorem view_sl {e : CS} {s off len : Nat} {r : D} (h : e.view E s off len = some r) : ∃ i o, e.hp s = some o ∧ E.ty o.ty = some i ∧ 0 < i.size ∧ r = .sl 0 i.size (chunk i.size i.agg len (o.cells.drop (off * i.size))) ∧ (off + len) * i.size ≤ o.cells.length := by
  unfold CS.view at h
  split at h
  · rename_i o ho
    split at h
    · rename_i i hi
      split at h
      · rename_i hc
        simp only [Bool.and_eq_true, decide_eq_true_eq] at hc
        exact ⟨i, o, ho, hi, hc.1, (Option.some.inj h).symm, hc.2⟩
      · simp at h
    · simp at h
  · simp at h

theorem ty_not_int (hE : EnvOk P E) {t : TypeId} {i : TI} (h : E.ty t = some i) (hk : (∃ e, i.kind = .slice e) ∨ i.kind = .str) : ∃ d, P.underlying t = some d ∧ ∀ k, d ≠ .int k := by
  rcases hk with ⟨e, hk⟩ | hk
  · exact ⟨_, ty_slice hE h hk, by simp⟩
  · exact ⟨_, ty_str hE h hk, by simp⟩

theorem two_vals {args : List D} {vs : List Value} {x y : D} (hl : args.length = vs.length) (h : args = [x, y]) (hv : ∀ (i : Nat) d, args[i]? = some d → V E c g w d (vs.getD i undef)) : ∃ a b, vs = [a, b] ∧ V E c g w x a ∧ V E c g w y b := by
  subst h
  match vs, hl with
  | [a, b], _ => exact ⟨a, b, rfl, hv 0 x rfl, hv 1 y rfl⟩

/-- A builtin's answer. -/
theorem builtinD_ok (hE : EnvOk P E) (hI : Inv E c g w) {b : Builtin} {ts : List TypeId} {ty : TypeId} {cs : Array Bool} {args : List D} {vs : List Value} {r : D} {c' : CS} (hl : args.length = vs.length)
    (hv : ∀ (i : Nat) d, args[i]? = some d → V E c g w d (vs.getD i undef)) (h : builtinD E b ts args c = some (r, c')) :
    ∃ v w' g', (builtin b ts.toArray ty cs vs.toArray).run P w = .ok (.value v) w' ∧ V E c' g' w' r v ∧ Inv E c' g' w' ∧ Evo g c w g' c' w' := by
  have refl := Evo.refl (g := g) hI.mb c w
  unfold builtinD at h
  split at h
  · rename_i x
    obtain ⟨y, rfl⟩ : ∃ y, vs = [y] := by
      match vs, hl with
      | [y], _ => exact ⟨y, rfl⟩
    have hx := hv 0 x rfl
    simp only [List.getD_cons_zero] at hx
    clear hl hv
    split at h
    · rename_i t ts'
      split at h
      · rename_i e s0 b0 a0 f0 z0 k z l hty
        have hu := ty_slice hE hty rfl
        obtain ⟨rfl, rfl⟩ := Prod.mk.inj (Option.some.inj h)
        cases hx with
        | sl a cap f hcap hnone hz hsome hcell hv hk h1 htok =>
        refine ⟨.int .i64 l.length, w, g, ?_, .v rfl, hI, refl⟩
        refine run_v ?_
        unfold Builtin.len_
        simp only [List.getElem?_toArray, List.getElem?_cons_zero, Sem.run_bind, run_underlying hu, Result.andThen_ok]
        rfl
      · rename_i e s0 b0 a0 f0 z0 s off len hty
        have hu := ty_slice hE hty rfl
        obtain ⟨rfl, rfl⟩ := Prod.mk.inj (Option.some.inj h)
        cases hx with
        | ref a cap hs hl =>
        refine ⟨.int .i64 len, w, g, ?_, .v rfl, hI, refl⟩
        refine run_v ?_
        unfold Builtin.len_
        simp only [List.getElem?_toArray, List.getElem?_cons_zero, Sem.run_bind, run_underlying hu, Result.andThen_ok]
        rfl
      · rename_i s0 b0 a0 f0 z0 s hty
        have hu := ty_str hE hty rfl
        obtain ⟨rfl, rfl⟩ := Prod.mk.inj (Option.some.inj h)
        obtain ⟨rfl, _⟩ := hx.v_inv
        refine ⟨.int .i64 s.size, w, g, ?_, .v rfl, hI, refl⟩
        refine run_v ?_
        unfold Builtin.len_
        simp only [List.getElem?_toArray, List.getElem?_cons_zero, Sem.run_bind, run_underlying hu, Result.andThen_ok]
        rfl
      · simp at h
    · simp at h
  · rename_i x
    obtain ⟨y, rfl⟩ : ∃ y, vs = [y] := by
      match vs, hl with
      | [y], _ => exact ⟨y, rfl⟩
    have hx := hv 0 x rfl
    simp only [List.getD_cons_zero] at hx
    clear hl hv
    split at h
    · rename_i t ts'
      split at h
      · rename_i e s0 b0 a0 f0 z0 z l hty
        have hu := ty_slice hE hty rfl
        obtain ⟨rfl, rfl⟩ := Prod.mk.inj (Option.some.inj h)
        cases hx with
        | sl a cap f hcap hnone hz hsome hcell hv hk h1 htok =>
        have hce := h1 rfl
        subst hce
        refine ⟨.int .i64 l.length, w, g, ?_, .v rfl, hI, refl⟩
        refine run_v ?_
        unfold Builtin.cap_
        simp only [List.getElem?_toArray, List.getElem?_cons_zero, Sem.run_bind, run_underlying hu, Result.andThen_ok]
        rfl
      · simp at h
    · simp at h
  · rename_i k a k' b
    obtain ⟨x, y, rfl, hx, hy⟩ := two_vals hl rfl hv
    obtain ⟨rfl, _⟩ := hx.v_inv
    obtain ⟨rfl, _⟩ := hy.v_inv
    split at h
    · obtain ⟨rfl, rfl⟩ := Prod.mk.inj (Option.some.inj h)
      exact ⟨_, w, g, run_v rfl, .v rfl, hI, refl⟩
    · simp at h
  · rename_i k a k' b
    obtain ⟨x, y, rfl, hx, hy⟩ := two_vals hl rfl hv
    obtain ⟨rfl, _⟩ := hx.v_inv
    obtain ⟨rfl, _⟩ := hy.v_inv
    split at h
    · obtain ⟨rfl, rfl⟩ := Prod.mk.inj (Option.some.inj h)
      exact ⟨_, w, g, run_v rfl, .v rfl, hI, refl⟩
    · simp at h
  · rename_i dx dy
    obtain ⟨x, y, rfl, hx, hy⟩ := two_vals hl rfl hv
    -- what is appended to
    have key : ∀ {t t2 e : TypeId} {xs : List D}, ts = [t, t2] → P.underlying t = some (.slice e) → (∃ d, P.underlying t2 = some d ∧ ∀ k, d ≠ .int k) → appendD E e dx xs c = some (r, c') →
        (Builtin.lenOf y).run P w = .ok xs.length w → (∀ i, E.ty e = some i → 0 < i.size → SrcOk P E c g w i.size xs.length y xs ∧ ∀ (q : Nat) d, xs[q]? = some d → d.cells.length = i.size) →
        ∃ v w' g', (builtin .append ts.toArray ty cs [x, y].toArray).run P w = .ok (.value v) w' ∧ V E c' g' w' r v ∧ Inv E c' g' w' ∧ Evo g c w g' c' w' := by
      intro t t2 e xs hts hu hu2 ha hn hsrc
      subst hts
      have ha0 := ha
      unfold appendD at ha
      split at ha
      · simp at ha
      · rename_i i hi
        split at ha
        · rename_i k z l
          split at ha
          · rename_i hc
            obtain ⟨hs1, hs2⟩ := hsrc i hi (by have := hc.1; omega)
            cases hx with
            | sl a cap f hcap hnone hz hsome hcell hv' hk h1 htok =>
            have hx' : V E c g w (.sl k z l) (.slice a l.length cap) := .sl a cap f hcap hnone hz hsome hcell hv' hk h1 htok
            obtain ⟨v, w', g', q1, q2⟩ := append_sl_ok (ty := ty) hE hI hu hi hu2 hx' hn (by rw [hc.1.1]; exact hs1) (by rw [hc.1.1]; exact hs2) ha0
            exact ⟨v, w', g', run_v q1, q2⟩
          · simp at ha
        · simp at ha
    split at h
    · rename_i t t2
      split at h
      · rename_i e s0 b0 a0 f0 z0 e2 s1 b1 a1 f1 z1 hty hty2
        have hu := ty_slice hE hty rfl
        have hu2 := ty_not_int hE hty2 (.inl ⟨_, rfl⟩)
        split at h
        · rename_i k z ys
          split at h
          · rename_i hz
            cases hy with
            | sl a cap f hcap hnone hzz hsome hcell hv' hk h1 htok =>
            refine key rfl hu hu2 h rfl (fun i hi h0 => ?_)
            have hzi : z = i.size := by rw [hz]; unfold elemZ; rw [hty]; simp only; rw [hi]
            subst hzi
            exact ⟨src_sl h0 (.sl a cap f hcap hnone hzz hsome hcell hv' hk h1 htok), hzz⟩
          · simp at h
        · simp at h
      · rename_i e s0 b0 a0 f0 z0 s1 b1 a1 f1 z1 hty hty2
        have hu := ty_slice hE hty rfl
        have hu2 := ty_not_int hE hty2 (.inr rfl)
        split at h
        · rename_i s
          split at h
          · rename_i hz
            obtain ⟨rfl, _⟩ := hy.v_inv
            have hbl : (bytesD s).length = s.size := by simp [bytesD]
            refine key rfl hu hu2 h (by rw [hbl]; rfl) (fun i hi h0 => ?_)
            have hzi : 1 = i.size := by rw [hz]; unfold elemZ; rw [hty]; simp only; rw [hi]
            rw [← hzi, hbl]
            refine ⟨src_str, fun q d hq => ?_⟩
            simp only [bytesD, List.getElem?_map, Option.map_eq_some_iff] at hq
            obtain ⟨b, _, rfl⟩ := hq; rfl
          · simp at h
        · simp at h
      · rename_i e s0 b0 a0 f0 z0 k2 s1 b1 a1 f1 z1 hty hty2
        have hu := ty_slice hE hty rfl
        have hu2 := ty_int hE hty2 rfl
        split at h
        · rename_i z kk n i hi
          split at h
          · rename_i hc
            obtain ⟨rfl, rfl⟩ := Prod.mk.inj (Option.some.inj h)
            obtain ⟨⟨hz0, hz1⟩, hn, hroom⟩ := hc
            obtain ⟨rfl, _⟩ := hy.v_inv
            cases hx with
            | sl a cap f hcap hnone hzz hsome hcell hv' hk h1 htok =>
            obtain ⟨us, ul, ur, _⟩ := src_sl (P := P) hz1 (V.sl (E := E) (c := c) (g := g) (w := w) (k := 1) (z := z) (l := []) a cap f hcap hnone hzz hsome hcell hv' hk h1 htok)
            have hce := h1 rfl
            subst hz0
            simp only [List.length_nil] at hce ul ur
            subst hce
            obtain ⟨zv, z1, z2, z3, z4⟩ := ty_zero (E := E) (c := c) (g := g) (w := w) hE hI.nx hi
            obtain ⟨cap', cvs, hcap', hrun, hcv⟩ := run_append_make (ty := ty) hu hE hi hu2 hn z1 z2 hz1 hroom (fun d => by
              have := ur { w with drawn := d } (fun _ _ h => h)
              have hnil : us = [] := List.eq_nil_of_length_eq_zero (by simpa using ul)
              rw [hnil] at this
              exact this)
            have hst := grow_ok (w' := ({ w with drawn := w.drawn + 1 } : World).alloc (.cells cvs e)) (q := c.nx) (b := w.heap.size) (m := 0) (N := 0) (nx := c.nx + 1) (cs := cvs) (T := e) hI rfl rfl rfl
              (by rw [size_alloc]; show w.heap.size ≤ w.heap.size + 1; omega) (by rw [size_alloc]; show w.heap.size < w.heap.size + 1; omega) hI.base (fun k hk _ => heap_alloc_lt _ _ hk) (heap_alloc_eq _ _) (Nat.zero_le _) (by omega) hI.nx (by omega) (.inl (Nat.le_refl _)) (.inl (Nat.le_refl _))
            refine ⟨_, _, g.grow c.nx w.heap.size 0, run_v hrun, ?_, hst.2, hst.1⟩
            refine .rm _ _ hcap' (by simp) (by show c.nx < c.nx + 1; omega) (fun m h2 hm hm0 => .inr ⟨w.heap.size, by simp [Gh.grow], rfl, by simp [Gh.grow], ?_, ?_⟩)
            · rw [bsz_at (heap_alloc_eq _ _), hcv]
            · rw [size_alloc]; show w.heap.size < w.heap.size + 1; omega
          · simp at h
        · simp at h
      · simp at h
    · simp at h
  · simp at h


theorem eq_slnil {t e : TypeId} {w : World} (hu : P.underlying t = some (.slice e)) {ad : Addr} {n k : Nat} : (Op.equal t (.slice (some ad) n k) (.slice none 0 0)).run P w = .ok false w := by
  show (Op.equalIn (9999 + 1) t _ _).run P w = _
  rw [Op.equalIn]; simp [go_sem, run_underlying hu]

theorem ty_map (hE : EnvOk P E) {t : TypeId} {i : TI} {k e : TypeId} (h : E.ty t = some i) (hk : i.kind = .map k e) : P.underlying t = some (.map k e) := by
  obtain ⟨j, d, z, h1, h2, h3, h4, h5, h6, h7, h8, h9⟩ := tyB_spec (hE.ty t i h)
  rw [h2]; unfold kindB at h8; rw [hk] at h8
  cases d <;> simp at h8
  rw [h8.1.1, h8.1.2]

theorem lookup_ok (hE : EnvOk P E) {c : CS} {g : Gh} {w : World} {t k e : TypeId} {s0 b0 f0 z0 a0 k0 k1 k2 k3 k4 e0 e1 e2 e3} {z : Value} {m b : Nat} {q : ByteArray} {ok : Bool} {es : Array MapEntry} {clock : Nat}
    (hty : E.ty t = some ⟨.map k e, s0, b0, a0, f0, z0⟩) (hk : E.ty k = some ⟨.str, k0, k1, k2, k3, k4⟩) (he : E.ty e = some ⟨e0, e1, e2, false, e3, [.v z]⟩) (hw : w.heap[b]? = some (.map es clock))
    (hm : match E.mp m q with
      | some v => flatB v = true ∧ ∃ i, Instr.findNow .string (.string q) es.toList 0 = some (some (i, v))
      | none => Instr.findNow .string (.string q) es.toList 0 = some none) :
    ∃ v, (Instr.lookup t (.map (some b)) (.string q) ok).run P w = .ok v w ∧ V E c g w (match E.mp m q with
          | some v => if ok then .tup [.v v, .v (.bool true)] else .v v
          | none => if ok then .tup [.v z, .v (.bool false)] else .v z) v := by
  have hu := ty_map hE hty rfl
  have huk := ty_str hE hk rfl
  obtain ⟨j, d, zz, h1, h2, h3, h4, h5, h6, h7, h8, h9⟩ := tyB_spec (hE.ty e _ he)
  have hag := tyB_one (hE.ty e _ he) rfl (cs := zz.cells) h1
  have hzc : zz.cells.toList = [zz] := by
    cases zz <;> first | rfl | (exact absurd h5 hag)
  rw [hzc] at h6
  simp only [zerosB, zeroB, Bool.and_true] at h6
  obtain rfl := sameV_eq h6
  have hf := sameV_flat h6
  have hzv : ∀ w, (zeroValue e).run P w = .ok z w := fun w => by simp [zeroValue, typeInfo, program, Sem.run_bind, Sem.run, h1, h5, Result.andThen_ok, Sem.run_pure]
  have hck : ∀ em, (Instr.checkKey em 10000 k (.string q)).run P w = .ok () w := fun em => by
    show (Instr.checkKey em (9999 + 1) k (.string q)).run P w = _
    rw [Instr.checkKey]
    simp only [Sem.run_bind, run_underlying huk, Result.andThen_ok]
    rfl
  have hgo : (getObj b).run P w = .ok (.map es clock) w := by simp [getObj, Sem.run, hw]
  have hfk : ∀ r, Instr.findNow .string (.string q) es.toList 0 = some r → (Instr.findKey k (.string q) es.toList).run P w = .ok r w := fun r hr => by
    unfold Instr.findKey
    simp only [Sem.run_bind, run_underlying huk, Result.andThen_ok, hr, Sem.run_pure]
  have hmain : ∀ r, Instr.findNow .string (.string q) es.toList 0 = some r → (Instr.lookup t (.map (some b)) (.string q) ok).run P w = .ok (match r with
      | some (_, v) => if ok then .tuple #[v, .bool true] else v
      | none => if ok then .tuple #[z, .bool false] else z) w := fun r hr => by
    unfold Instr.lookup
    simp only [Sem.run_bind, run_underlying hu, Result.andThen_ok, hgo, Sem.run_pure, hck, hfk r hr]
    cases r with
    | none => simp only [Sem.run_bind, hzv, Result.andThen_ok, Sem.run_pure]
    | some p => obtain ⟨i, v⟩ := p; simp only [Sem.run_pure, Result.andThen_ok]; try (cases ok <;> rfl)
  have pair : ∀ (v : Value) (b : Bool), flatB v = true → V E c g w (.tup [.v v, .v (.bool b)]) (.tuple #[v, .bool b]) := fun v b hv => by
    refine V.tup (vs := [v, .bool b]) rfl (fun i d hd => ?_)
    match i with
    | 0 => simp at hd; subst hd; exact .v hv
    | 1 => simp at hd; subst hd; exact .v rfl
    | i + 2 => simp at hd
  cases hmp : E.mp m q with
  | none =>
    rw [hmp] at hm
    refine ⟨_, hmain none hm, ?_⟩
    cases ok
    · exact .v hf
    · exact pair z false hf
  | some v =>
    rw [hmp] at hm
    obtain ⟨hv, i, hi⟩ := hm
    refine ⟨_, hmain _ hi, ?_⟩
    cases ok
    · exact .v hv
    · exact pair v true hv

/-- One operation. -/
theorem runOp_ok (hE : EnvOk P E) {call : CallF} (hc : CallOk P E call) {fi : FI} {s : St} {a : Act} (hR : Rel E g s a w) {o : Oper} {r : D} {c' : CS} (h : runOp E fi call o s = some (r, c'))
    {next : Act → World → Prop} {Q : Exit → Act → World → Prop} (hn : ∀ v w' g', V E c' g' w' r v → Inv E c' g' w' → Evo g s.cs w g' c' w' → next (a.put o.dst v) w') : o.wp P a w next Q := by
  have hI := hR.inv
  have refl := Evo.refl (g := g) hI.mb s.cs w
  have quiet : ∀ {m : Sem Value} {d : D}, (∃ v, m.run P w = .ok v w ∧ V E s.cs g w d v) → r = d → c' = s.cs → (execOp a.eval o = do pure (Next.value (← m))) → o.wp P a w next Q := by
    rintro m d ⟨v, hm, hv⟩ rfl rfl he
    exact wp_value (by rw [he]; exact run_v hm) (hn v w g hv hI refl)
  have fresh : ∀ {m : Sem Value} {d : D} {c1 : CS}, (∃ v w' g', m.run P w = .ok v w' ∧ V E c1 g' w' d v ∧ Inv E c1 g' w' ∧ Evo g s.cs w g' c1 w') → r = d → c' = c1 → (execOp a.eval o = do pure (Next.value (← m))) → o.wp P a w next Q := by
    rintro m d c1 ⟨v, w', g', hm, hv, hI', he'⟩ rfl rfl he
    exact wp_value (by rw [he]; exact run_v hm) (hn v w' g' hv hI' he')
  have op := fun z x => opd_ok hR z x
  have mp : ∀ {x : Option D}, x.map (fun d => (d, s.cs)) = some (r, c') → x = some r ∧ c' = s.cs := by
    intro x hx
    cases x with
    | none => simp at hx
    | some d =>
      obtain ⟨rfl, rfl⟩ := Prod.mk.inj (Option.some.inj hx)
      exact ⟨rfl, rfl⟩
  unfold runOp at h
  simp only at h
  split at h
  · rename_i x hop
    obtain ⟨rfl, rfl⟩ := Prod.mk.inj (Option.some.inj h)
    exact wp_value (w' := w) (v := a.eval x) (by unfold execOp; rw [hop]; rfl) (hn _ w g (op _ x) hI refl)
  · rename_i x hop
    obtain ⟨rfl, rfl⟩ := Prod.mk.inj (Option.some.inj h)
    exact wp_value (w' := w) (v := a.eval x) (by unfold execOp; rw [hop]; rfl) (hn _ w g (op _ x) hI refl)
  · rename_i x y z hop
    split at h
    · rename_i t hx
      obtain ⟨rfl, rfl⟩ := Prod.mk.inj (Option.some.inj h)
      have hb := op (elemZ E o.type) x
      rw [hx] at hb
      obtain ⟨hb, _⟩ := hb.v_inv
      refine wp_value (w' := w) (v := if t then a.eval y else a.eval z) (by unfold execOp; rw [hop]; simp only; rw [hb]; rfl) (hn _ w g ?_ hI refl)
      cases t
      · exact op _ z
      · exact op _ y
    · simp at h
  · rename_i e hop
    split at h
    · rename_i i hi
      split at h
      · obtain ⟨rfl, rfl⟩ := Prod.mk.inj (Option.some.inj h)
        exact fresh (allocD_ok hE hI hi _) rfl rfl (by unfold execOp; rw [hop])
      · simp at h
    · simp at h
  · rename_i e x hop
    split at h
    · rename_i i hi
      split at h
      · rename_i hcc
        obtain ⟨rfl, rfl⟩ := Prod.mk.inj (Option.some.inj h)
        exact fresh (boxD_ok hI (op _ x) hcc.2) rfl rfl (by unfold execOp; rw [hop])
      · simp at h
    · simp at h
  · rename_i t parts hop
    split at h
    · rename_i i hi
      cases hb : buildD E i (parts.toList.map fun q => (q.1, s.opd 0 q.2)) with
      | none => rw [hb] at h; simp at h
      | some cs =>
        rw [hb] at h
        obtain ⟨rfl, rfl⟩ := Prod.mk.inj (Option.some.inj h)
        exact quiet (buildD_ok hE hI hi (by simp) (parts_ok hR parts) hb) rfl rfl (by unfold execOp; rw [hop])
    · simp at h
  · rename_i t len parts hop
    split at h
    · rename_i e s0 b0 a0 f0 z0 hty
      split at h
      · rename_i i hi
        cases hb : buildSliceD i len (parts.toList.map fun q => (q.1, s.opd 0 q.2)) with
        | none => rw [hb] at h; simp at h
        | some cs =>
          rw [hb] at h
          obtain ⟨rfl, rfl⟩ := Prod.mk.inj (Option.some.inj h)
          exact fresh (buildSliceD_ok hE hI (ty_slice hE hty rfl) hi (by simp) (parts_ok hR parts) hb) rfl rfl (by unfold execOp; rw [hop])
      · simp at h
    · simp at h
  · rename_i t x hop
    obtain ⟨h1, h2⟩ := mp h
    exact quiet (loadD_ok hE hI (op _ x) h1) rfl h2 (by unfold execOp; rw [hop])
  · rename_i t x y hop
    cases hs : storeD E t (s.opd (elemZ E o.type) x) (s.opd (elemZ E t) y) s.cs with
    | none => rw [hs] at h; simp at h
    | some c1 =>
      rw [hs] at h
      obtain ⟨rfl, rfl⟩ := Prod.mk.inj (Option.some.inj h)
      obtain ⟨w', hr, he, hi⟩ := storeD_ok hE hI (op _ x) (op _ y) hs
      refine wp_unit (w' := w') ?_ (hn undef w' g (.tup (vs := []) rfl (by simp)) hi he)
      unfold execOp; rw [hop]
      simp only [Sem.run_bind, hr, Result.andThen_ok, Sem.run_pure]
  · rename_i x hop
    split at h
    · rename_i p q hx
      obtain ⟨rfl, rfl⟩ := Prod.mk.inj (Option.some.inj h)
      have hv := op (elemZ E o.type) x
      rw [hx] at hv
      refine wp_value (w' := w) (v := a.eval x) ?_ (hn _ w g hv hI refl)
      unfold execOp; rw [hop]
      simp only
      generalize a.eval x = y at hv
      cases hv; rfl
    · rename_i p q hx
      obtain ⟨rfl, rfl⟩ := Prod.mk.inj (Option.some.inj h)
      have hv := op (elemZ E o.type) x
      rw [hx] at hv
      refine wp_value (w' := w) (v := a.eval x) ?_ (hn _ w g hv hI refl)
      unfold execOp; rw [hop]
      simp only
      generalize a.eval x = y at hv
      cases hv; rfl
    · simp at h
  · rename_i op' t x y t2 hop
    split at h
    · rename_i k z e l hx
      have hv := op (elemZ E o.type) x
      rw [hx] at hv
      split at h
      · rename_i e' s0 b0 a0 f0 z0 hty
        have hu := ty_slice hE hty rfl
        generalize hxe : a.eval x = y at hv
        cases hv with
        | sl p cap f hcap hnone hz hsome hcell hv' hk h1 htok =>
        obtain ⟨ad, rfl, _⟩ := hsome (by simp)
        split at h
        · obtain ⟨rfl, rfl⟩ := Prod.mk.inj (Option.some.inj h)
          refine wp_value (w' := w) (v := .bool false) ?_ (hn _ w g (.v rfl) hI refl)
          unfold execOp; rw [hop]
          simp only [hxe]
          refine run_v ?_
          show (do pure (.bool (← Op.equal t _ (.slice none 0 0))) : Sem Value).run P w = _
          simp only [Sem.run_bind, eq_slnil hu, Result.andThen_ok, Sem.run_pure]
        · obtain ⟨rfl, rfl⟩ := Prod.mk.inj (Option.some.inj h)
          refine wp_value (w' := w) (v := .bool true) ?_ (hn _ w g (.v rfl) hI refl)
          unfold execOp; rw [hop]
          simp only [hxe]
          refine run_v ?_
          show (do pure (.bool (!(← Op.equal t _ (.slice none 0 0)))) : Sem Value).run P w = _
          simp only [Sem.run_bind, eq_slnil hu, Result.andThen_ok, Sem.run_pure]; rfl
        · simp at h
      · simp at h
    · rename_i y _ _ _
      obtain ⟨h1, h2⟩ := mp h
      exact quiet (binD_ok hE (op _ x) (op _ y) h1 x y) rfl h2 (by unfold execOp; rw [hop])
  · rename_i op' t x hop
    obtain ⟨h1, h2⟩ := mp h
    exact quiet (unD_ok (op _ x) h1) rfl h2 (by unfold execOp; rw [hop])
  · rename_i t1 t2 x hop
    obtain ⟨h1, h2⟩ := mp h
    subst h2
    exact fresh (convD_ok hE hI (op _ x) h1) rfl rfl (by unfold execOp; rw [hop])
  · rename_i f first caps hop
    split at h
    · rename_i h0
      obtain ⟨rfl, rfl⟩ := Prod.mk.inj (Option.some.inj h)
      have hfirst : first = #[] := Array.size_eq_zero_iff.1 h0
      subst hfirst
      refine quiet (m := Instr.makeFunc (.func f) ((#[] : Array Operand).map a.eval) (caps.map a.eval)) ⟨_, rfl, ?_⟩ rfl rfl (by unfold execOp; rw [hop])
      have := V.fn (E := E) (c := s.cs) (g := g) (w := w) (f := f) (cs := caps.toList.map (s.opd (elemZ E o.type))) (vs := caps.toList.map a.eval) (by simp) (fun i d hd => by
        simp only [List.getElem?_map, Option.map_eq_some_iff] at hd
        obtain ⟨x, hx, rfl⟩ := hd
        have : (caps.toList.map a.eval).getD i undef = a.eval x := by apply getD_of; simp [hx]
        rw [this]; exact op _ x)
      have e : (caps.toList.map a.eval).toArray = caps.map a.eval := by apply Array.toList_inj.1; simp
      rw [e] at this
      have e0 : (#[] : Array Operand).map a.eval = #[] := by simp
      rw [e0]
      exact this
    · simp at h
  · rename_i t x lo hi mx hop
    obtain ⟨h1, h2⟩ := mp h
    have opt : ∀ (y : Option Operand) q, y.map (s.opd (elemZ E o.type)) = some q → ∃ v, y.map a.eval = some v ∧ V E s.cs g w q v := by
      intro y q hq
      cases y with
      | none => simp at hq
      | some y => simp at hq; subst hq; exact ⟨_, rfl, op _ y⟩
    have non : ∀ (y : Option Operand), y.map (s.opd (elemZ E o.type)) = none → y.map a.eval = none := by
      intro y hq
      cases y with
      | none => rfl
      | some y => simp at hq
    exact quiet (sliceD_ok hE hI (op _ x) (opt lo) (non lo) (opt hi) (non hi) (opt mx) (non mx) h1) rfl h2 (by unfold execOp; rw [hop])
  · rename_i t x f hop
    obtain ⟨h1, h2⟩ := mp h
    exact quiet (fieldAddrD_ok hE (op _ x) h1) rfl h2 (by unfold execOp; rw [hop])
  · rename_i t x ix hop
    obtain ⟨h1, h2⟩ := mp h
    exact quiet (indexAddrD_ok hE (op _ x) (op _ ix) h1) rfl h2 (by unfold execOp; rw [hop])
  · rename_i t x ix hop
    obtain ⟨h1, h2⟩ := mp h
    exact quiet (indexD_ok hE (op _ x) (op _ ix) h1) rfl h2 (by unfold execOp; rw [hop])
  · rename_i t x ix ok hop
    split at h
    · rename_i k e s0 b0 a0 f0 z0 m q hty hx hix
      split at h
      · rename_i k0 k1 k2 k3 k4 e0 e1 e2 e3 z hk he
        obtain ⟨rfl, rfl⟩ := Prod.mk.inj (Option.some.inj h)
        have hv := op (elemZ E o.type) x
        have hvi := op (elemZ E o.type) ix
        rw [hx] at hv
        rw [hix] at hvi
        obtain ⟨hq, _⟩ := hvi.v_inv
        generalize hxe : a.eval x = y at hv
        cases hv with
        | mp es clock hb hw hm =>
        obtain ⟨v, hr, hvv⟩ := lookup_ok hE (ok := ok) hty hk he hw (hm q)
        refine wp_value (w' := w) (v := v) ?_ (hn _ w g hvv hI refl)
        unfold execOp; rw [hop]
        simp only [hxe, hq]
        exact run_v hr
      · simp at h
    · simp at h
  · rename_i x i hop
    split at h
    · rename_i vs hx
      obtain ⟨h1, h2⟩ := mp h
      have hv := op (elemZ E o.type) x
      rw [hx] at hv
      exact quiet (extractD_ok hv h1) rfl h2 (by unfold execOp; rw [hop])
    · simp at h
  · rename_i q hop
    split at h
    · rename_i b hb
      obtain ⟨l1, l2⟩ := argL_ok hR q.argTypes.toList q.args.toList
      obtain ⟨v, w', g', hr, hv, hi, he⟩ := builtinD_ok (ty := o.type) (cs := q.args.map fun | .const _ => true | _ => false) hE hI (vs := q.args.toList.map a.eval) (by simpa using l1) l2 h
      refine wp_value (w' := w') (v := v) ?_ (hn v w' g' hv hi he)
      unfold execOp; rw [hop]
      simp only [resolve, hb, Sem.run_bind, Sem.run_pure, Result.andThen_ok, invoke]
      have e1 : q.argTypes.toList.toArray = q.argTypes := by simp
      have e2 : (q.args.toList.map a.eval).toArray = q.args.map a.eval := by apply Array.toList_inj.1; simp
      rw [e1, e2] at hr
      exact hr
    · rename_i f hf
      split at h
      · rename_i fn caps hx
        obtain ⟨l1, l2⟩ := argL_ok hR q.argTypes.toList q.args.toList
        have hv := op (elemZ E o.type) f
        rw [hx] at hv
        generalize he : a.eval f = y at hv
        cases hv with
        | @fn _ _ vs hl hcv =>
        have hargs : ∀ (i : Nat) d, (argL E s q.argTypes.toList q.args.toList ++ caps)[i]? = some d → V E s.cs g w d ((q.args.toList.map a.eval ++ vs).getD i undef) := by
          intro i d hd
          by_cases hi : i < (argL E s q.argTypes.toList q.args.toList).length
          · rw [List.getElem?_append_left hi] at hd
            have := l2 i d hd
            have e : (q.args.toList.map a.eval ++ vs).getD i undef = (q.args.toList.map a.eval).getD i undef := by
              simp only [List.getD]; rw [List.getElem?_append_left (by simp; simp at l1; omega)]
            rw [e]; exact this
          · rw [List.getElem?_append_right (by omega)] at hd
            have := hcv _ d hd
            have e : (q.args.toList.map a.eval ++ vs).getD i undef = vs.getD (i - (argL E s q.argTypes.toList q.args.toList).length) undef := by
              simp only [List.getD]; rw [List.getElem?_append_right (by simp; simp at l1; omega)]; simp [l1]
            rw [e]; exact this
        by_cases hsn : fi.mode (o.dst.getD 0) = .snap
        · rw [hsn] at h
          simp only [callD] at h
          split at h
          · rename_i ex hex
            cases hr : ex (argL E s q.argTypes.toList q.args.toList ++ caps) with
            | none => rw [hr] at h; simp at h
            | some r0 =>
              rw [hr] at h
              obtain ⟨rfl, rfl⟩ := Prod.mk.inj (Option.some.inj h)
              obtain ⟨x, hx1, hx2⟩ := hE.ext _ _ hex _ _ hr s.cs g w (q.args.toList.map a.eval ++ vs) hI (by simp at l1 ⊢; omega) hargs
              refine wp_value (w' := w) (v := x) ?_ (hn x w g hx2 hI (.refl hI.mb _ _))
              have hrun : (execOp a.eval o).run P w = (callFunc fn (q.args.toList.map a.eval ++ vs).toArray).run P w := by
                unfold execOp; rw [hop]
                simp only [resolve, hf, he, Deferred.ofValue, Sem.run_bind, Sem.run_pure, Result.andThen_ok, invoke]
                have e0 : (q.args.toList.map a.eval ++ vs).toArray = #[] ++ q.args.map a.eval ++ vs.toArray := by apply Array.toList_inj.1; simp
                rw [e0]
              rw [hrun, hx1]
          · simp at h
        obtain ⟨hb, hok⟩ := callD_ok hE hc hsn h
        have hcalls := hok hI (vs := q.args.toList.map a.eval ++ vs) (by simp at l1 ⊢; omega) hargs
        obtain ⟨fn', hfn, hbody, hname⟩ := hb
        have hrun : (execOp a.eval o).run P w = .ok (.enter fn (q.args.toList.map a.eval ++ vs).toArray) w := by
          unfold execOp; rw [hop]
          simp only [resolve, hf, he, Deferred.ofValue, Sem.run_bind, Sem.run_pure, Result.andThen_ok, invoke, callFunc, program, Sem.run, hfn, hname, hbody, Bool.false_eq_true, if_false]
          simp
        unfold Oper.wp
        rw [hrun, Oper.upon_enter]
        refine hcalls.mono ?_
        rintro e w' ⟨x, g', rfl, hx', hI', hev⟩
        exact hn x w' g' hx' hI' hev
      · simp at h
    · simp at h
  · simp at h

end
end Go.Den
