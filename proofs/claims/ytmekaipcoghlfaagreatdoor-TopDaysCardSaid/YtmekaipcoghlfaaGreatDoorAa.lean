/-
  Part of the proof of TopDays: lemmas that the others lean on.
-/
import Derived.Orders
import Derived.Defers
import Derived.KernelRfl
import Derived.Laws.Sem
import Derived.Laws.World
import Derived.Laws.Cells
import Derived.Laws.Entries
set_option linter.all false
set_option linter.unusedVariables false
set_option linter.unusedSimpArgs false
section
namespace Go.Am
inductive Tree (α : Type) where
  | leaf
  | node (l : Tree α) (k : Nat) (v : α) (r : Tree α)
def Tree.get {α : Type} : Tree α → Nat → Option α
  | .leaf, _ => none
  | .node l k v r, n => match Nat.beq n k with
    | true => some v
    | false => match Nat.blt n k with
      | true => l.get n
      | false => r.get n
end Go.Am
end
noncomputable section
namespace Go.Am

/-! ## Abstract values -/

inductive AV where
  | bool (b : Bool)
  | int (k : IntKind) (n : Int)
  | str (s : List Nat)
  | nilptr
  | gptr (g off : Nat)
  | ptr (b gen off : Nat)
  | fptr (cells : List AV) (off : Nat)
  | nilslice
  | fslice (cells : List AV) (esz len : Nat) (full nn : Bool)
  | mslice (b gen off esz len : Nat) (full : Bool)
  | func (f : Nat) (captured : List AV)
  | nilfunc
  | iface (t : Nat) (v : AV)
  | niliface
  | agg (cells : List AV)
  | tuple (vs : List AV)
  | fz (a : AV)
  | junk
  deriving Inhabited

/-- A block of abstract memory. -/
inductive Blk where
  | mem (cells : List AV) (elem gen : Nat) (ro pure : Bool)
  | iter (s : List Nat) (pos : Nat)
  deriving Inhabited

abbrev Heap := List (Option Blk)

/-- Temporaries, as a tree: place k has its children at 2k and 2k + 1. -/
inductive Tm where
  | leaf
  | node (v : AV) (l r : Tm)
  deriving Inhabited

def Tm.at (t : Tm) (k : Nat) : AV :=
  Tm.rec (motive := fun _ => Nat → AV) (fun _ => .tuple []) (fun v _ _ gl gr k =>
    Bool.rec (motive := fun _ => AV) (Bool.rec (motive := fun _ => AV) (gr (Nat.div k 2)) (gl (Nat.div k 2)) (Nat.beq (Nat.mod k 2) 0)) v (Nat.beq k 1)) t k

def Tm.set (x : AV) (t : Tm) (k : Nat) : Tm :=
  Tm.rec (motive := fun _ => Nat → Tm) (fun _ => .leaf) (fun v l r sl sr k =>
    Bool.rec (motive := fun _ => Tm) (Bool.rec (motive := fun _ => Tm) (.node v l (sr (Nat.div k 2))) (.node v (sl (Nat.div k 2)) r) (Nat.beq (Nat.mod k 2) 0)) (.node x l r) (Nat.beq k 1)) t k

/-- Is there such a place? -/
def Tm.has : Tm → Nat → Bool
  | .leaf, _ => false
  | .node _ l r, k => Nat.beq k 1 || (if k % 2 = 0 then l.has (k / 2) else r.has (k / 2))

/-- The tree of the places 1 to n. -/
def Tm.sk (d n : Nat) : Tm :=
  Nat.rec (motive := fun _ => Nat → Tm) (fun _ => .leaf) (fun _ ih n => Bool.rec (motive := fun _ => Tm) (.node (.tuple []) (ih (Nat.div n 2)) (ih (Nat.div (Nat.sub n 1) 2))) .leaf (Nat.beq n 0)) d n

abbrev Tms := Tm

def Tms.at (s : Tms) (i : Nat) : AV := Tm.at s (Nat.succ i)
def Tms.set (s : Tms) (i : Nat) (v : AV) : Tms := Tm.set v s (Nat.succ i)
def Tms.puts : List AV → Nat → Tms → Tms
  | [], _, s => s
  | a :: r, i, s => Tms.puts r (i + 1) (Tms.set s i a)
def Tms.start (n : Nat) (args : List AV) : Tms := Tms.puts args 0 (.sk (Nat.log2 n + 1) n)

structure St where
  tmps : Tms
  heap : Heap
  defers : List AV
  deriving Inhabited

inductive X where
  | normal
  | exit (id : Nat)
  | ret
  deriving DecidableEq, Inhabited

/-! ## What the executor knows of the program -/

inductive TD where
  | bool
  | int (k : IntKind)
  | string
  | ptr (e : Nat)
  | upt
  | slice (e : Nat)
  | array (n e : Nat)
  | struct (fs : List (Nat × Nat))
  | iface (bare : Bool)
  | func
  | other
  deriving Inhabited

structure TI where
  desc : TD
  size : Nat
  bytes : Nat
  zero : List AV
  cmp : Bool
  deriving Inhabited

def TD.agg : TD → Bool
  | .struct _ | .array _ _ => true
  | _ => false

inductive Prim where
  | add64 | sub64 | countString | indexByteString | indexString | cmpString | noEscape | makeNoZero | overlaps
  deriving Inhabited, DecidableEq

/-- How a function is called. own: what it gives is not frozen; borrow: it gives nothing that lies in memory, so what it gets is not frozen for good; look: what its pointers point to it only reads; keep: arguments that go along as they are. -/
structure Mode where
  own : Bool
  borrow : Bool
  look : Bool
  keep : List Bool
  deriving Inhabited

structure FI where
  ntmps : Nat
  results : List ResultVar
  body : Code
  deriving Inhabited

structure Env where
  ti : Nat → Option TI
  fn : Nat → Option FI
  prim : Nat → Option Prim
  glob : Nat → Option (List AV)
  meth : Nat → String → Option Nat
  mode : Nat → Mode
  eqAgg : Nat → Option (List (Option IntKind))
  byteT : Nat
  short : Nat → Option (List AV → Option AV)

/-- What a call is known to come to. -/
def shortOf (E : Env) (f : Nat) (args : List AV) : Option AV :=
  match E.short f with
  | some s => s args
  | none => none

/-! ## The trace: a script of decisions, and what is owed for them -/

inductive Cmd where
  | auto (n : Nat)
  | ob
  | br (b : Bool)
  | val (v : AV)
  | vals (vs : List AV)
  | nats (s : List Nat)
  | ret (v : AV) (h : Heap)
  | jump (x : X) (s : St)

structure Tr where
  scr : List Cmd
  ob : List Prop

def nxt : List Cmd → Option Cmd × List Cmd
  | [] => (none, [])
  | .auto 0 :: r => nxt r
  | .auto (n + 1) :: r => (none, .auto n :: r)
  | c :: r => (some c, r)

def M (α : Type) := Tr → Option (α × Tr)

def M.ret {α : Type} (a : α) : M α := fun t => some (a, t)
def M.bind {α β : Type} (m : M α) (f : α → M β) : M β := fun t =>
  Option.rec (motive := fun _ => Option (β × Tr)) none (fun p => f p.1 p.2) (m t)
instance : Monad M where
  pure := M.ret
  bind := M.bind

def fail {α : Type} : M α := fun _ => none
def lift {α : Type} : Option α → M α
  | some a => M.ret a
  | none => fail

/-- A test that must come out true: reckoned, or owed. -/
def check (b : Bool) : M Unit := fun t =>
  match nxt t.scr with
  | (none, r) => match b with
    | true => some ((), ⟨r, t.ob⟩)
    | false => none
  | (some .ob, r) => some ((), ⟨r, (b = true) :: t.ob⟩)
  | _ => none

/-- A test that goes two ways. -/
def decideB (b : Bool) : M Bool := fun t =>
  match nxt t.scr with
  | (none, r) => some (b, ⟨r, t.ob⟩)
  | (some (.br c), r) => some (c, ⟨r, (b = c) :: t.ob⟩)
  | _ => none

def branch (v : AV) : M Bool :=
  match v with
  | .bool b => decideB b
  | _ => fail

def readCell (x : Option AV) : M AV := fun t =>
  match nxt t.scr with
  | (none, r) => match x with
    | some v => some (v, ⟨r, t.ob⟩)
    | none => none
  | (some (.val v), r) => some (v, ⟨r, (x = some v) :: t.ob⟩)
  | _ => none

def readCells (x : Option (List AV)) : M (List AV) := fun t =>
  match nxt t.scr with
  | (none, r) => match x with
    | some v => some (v, ⟨r, t.ob⟩)
    | none => none
  | (some (.vals v), r) => some (v, ⟨r, (x = some v) :: t.ob⟩)
  | _ => none

def readNats (x : Option (List Nat)) : M (List Nat) := fun t =>
  match nxt t.scr with
  | (none, r) => match x with
    | some v => some (v, ⟨r, t.ob⟩)
    | none => none
  | (some (.nats v), r) => some (v, ⟨r, (x = some v) :: t.ob⟩)
  | _ => none

def hintI (x : Int) : M Int := fun t =>
  match nxt t.scr with
  | (none, r) => some (x, ⟨r, t.ob⟩)
  | (some (.val (.int .i64 n)), r) => some (n, ⟨r, (x = n) :: t.ob⟩)
  | _ => none

def readPair (x : Nat × Nat) : M (Nat × Nat) := fun t =>
  match nxt t.scr with
  | (none, r) => some (x, ⟨r, t.ob⟩)
  | (some (.nats [c, w]), r) => some ((c, w), ⟨r, (x = (c, w)) :: t.ob⟩)
  | _ => none

/-! ## Lists and heaps -/

def setL {α : Type} (l : List α) (n : Nat) (v : α) : List α :=
  List.rec (motive := fun _ => Nat → List α) (fun _ => []) (fun x xs ih n => Nat.rec (motive := fun _ => List α) (v :: xs) (fun m _ => x :: ih m) n) l n
theorem setL_nil {α : Type} (n : Nat) (v : α) : setL [] n v = [] := rfl
theorem setL_zero {α : Type} (x : α) (xs : List α) (v : α) : setL (x :: xs) 0 v = v :: xs := rfl
theorem setL_succ {α : Type} (x : α) (xs : List α) (n : Nat) (v : α) : setL (x :: xs) (n + 1) v = x :: setL xs n v := rfl

def getL {α : Type} (l : List α) (n : Nat) : Option α :=
  List.rec (motive := fun _ => Nat → Option α) (fun _ => none) (fun x _ ih n => Nat.rec (motive := fun _ => Option α) (some x) (fun m _ => ih m) n) l n
theorem getL_nil {α : Type} (n : Nat) : getL ([] : List α) n = none := rfl
theorem getL_zero {α : Type} (x : α) (xs : List α) : getL (x :: xs) 0 = some x := rfl
theorem getL_succ {α : Type} (x : α) (xs : List α) (n : Nat) : getL (x :: xs) (n + 1) = getL xs n := rfl

def dropL {α : Type} (l : List α) (n : Nat) : List α :=
  List.rec (motive := fun _ => Nat → List α) (fun _ => []) (fun x xs ih n => Nat.rec (motive := fun _ => List α) (x :: xs) (fun m _ => ih m) n) l n
theorem dropL_nil {α : Type} (n : Nat) : dropL ([] : List α) n = [] := rfl
theorem dropL_zero {α : Type} (xs : List α) : dropL xs 0 = xs := by cases xs <;> rfl
theorem dropL_succ {α : Type} (x : α) (xs : List α) (n : Nat) : dropL (x :: xs) (n + 1) = dropL xs n := rfl

/-- The first n of a list, if it has as many. -/
def takeL {α : Type} : List α → Nat → Option (List α)
  | _, 0 => some []
  | [], _ + 1 => none
  | x :: xs, n + 1 => (takeL xs n).map (x :: ·)

def cellsAt {α : Type} (cells : List α) (off n : Nat) : Option (List α) := takeL (dropL cells off) n

/-- Cells written from a place on. -/
def setsL {α : Type} (cells : List α) (off : Nat) : List α → List α
  | [] => cells
  | v :: vs => setsL (setL cells off v) (off + 1) vs

def Heap.put : Heap → Nat → Blk → Heap
  | [], 0, b => [some b]
  | [], n + 1, b => none :: Heap.put [] n b
  | _ :: h, 0, b => some b :: h
  | x :: h, n + 1, b => x :: Heap.put h n b

def Heap.puts (h : Heap) : List (Nat × Blk) → Heap
  | [] => h
  | (i, b) :: r => Heap.puts (h.put i b) r

def Heap.at (h : Heap) (b : Nat) : Option Blk :=
  match getL h b with
  | some (some x) => some x
  | _ => none

/-- A block of cells that a reference of that generation sees. -/
def Heap.mem (h : Heap) (b gen : Nat) : Option (List AV × Nat × Bool × Bool) :=
  match h.at b with
  | some (.mem cells elem g ro pure) => if g = gen then some (cells, elem, ro, pure) else none
  | _ => none

def eqNats : List Nat → List Nat → Bool
  | [], [] => true
  | a :: x, b :: y => Nat.beq a b && eqNats x y
  | _, _ => false

def ltNats : List Nat → List Nat → Bool
  | _, [] => false
  | [], _ :: _ => true
  | a :: x, b :: y => Nat.blt a b || (Nat.beq a b && ltNats x y)

/-! ## Values -/

def unfz : AV → AV
  | .fz a => a
  | a => a

def isPure : AV → Bool
  | .bool _ | .int _ _ | .str _ | .nilptr | .gptr _ _ | .fptr _ _ | .nilslice | .fslice .. | .nilfunc | .niliface | .fz _ => true
  | .iface _ v => isPure v
  | .agg cs => allPure cs
  | .tuple vs => allPure vs
  | .func _ vs => allPure vs
  | _ => false
where
  allPure : List AV → Bool
    | [] => true
    | a :: r => isPure a && allPure r

/-- May it lie in one cell? -/
def isCell : AV → Bool
  | .agg _ | .tuple _ | .junk => false
  | _ => true

def notJunk : AV → Bool
  | .junk => false
  | _ => true

def allCells : List AV → Bool
  | [] => true
  | a :: r => isCell a && allCells r

def AV.cells : AV → List AV
  | .agg cs => cs
  | v => [v]

def bytesOf (s : ByteArray) : List Nat := s.data.toList.map UInt8.toNat

/-- A constant. -/
def cv0 : Value → AV
  | .bool b => .bool b
  | .int k n => .int k n
  | .string s => .str (bytesOf s)
  | .pointer none => .nilptr
  | .slice none 0 0 => .nilslice
  | .nilFunc => .nilfunc
  | .nilIface => .niliface
  | _ => .junk

def cv : Value → AV
  | .agg cs => .agg (cs.toList.map cv0)
  | .tuple vs => .tuple (vs.toList.map cv0)
  | v => cv0 v

def evalO (tmps : Tms) : Operand → AV
  | .tmp t => Tms.at tmps t
  | .const v => cv v
  | .global g => .gptr g 0
  | .func f => .func f []

/-- The cells that a pointer points into, and at which place. -/
def target (E : Env) (h : Heap) : AV → Option (List AV × Nat)
  | .ptr b gen off => match h.mem b gen with
    | some (cells, _) => some (cells, off)
    | none => none
  | .fptr cells off => some (cells, off)
  | .gptr g off => match E.glob g with
    | some cells => some (cells, off)
    | none => none
  | _ => none

/-- A slice's cells, its length, the size of an element. -/
def contents (h : Heap) : AV → Option (List AV × Nat × Bool)
  | .nilslice => some ([], 0, true)
  | .fslice cells _ len _ _ => some (cells, len, true)
  | .mslice b gen off esz len _ => match h.mem b gen with
    | some (cells, _, _, pure) => match cellsAt cells off (len * esz) with
      | some cs => some (cs, len, match len with | 0 => true | _ + 1 => pure)
      | none => none
    | none => none
  | .str s => some (s.map fun (b : Nat) => AV.int .u8 b, s.length, true)
  | _ => none

def zeroOf (ti : TI) : AV := if ti.desc.agg then .agg ti.zero else (ti.zero.head?).getD .junk

/-! ## Operations that touch no memory -/

def shiftOp (op : BinOp) (k : IntKind) (x y : Int) : Option AV :=
  if y < 0 then none else
  match op with
  | .shl => some (.int k (k.wrap (x * 2 ^ (min y.toNat k.bits))))
  | .shr => some (.int k (x.fdiv (2 ^ (min y.toNat k.bits))))
  | _ => none

def bitsOp (op : BinOp) (k : IntKind) (x y : Int) : Option AV :=
  let a := BitVec.ofInt k.bits x
  let b := BitVec.ofInt k.bits y
  match op with
  | .and => some (.int k (k.wrap (a &&& b).toNat))
  | .or => some (.int k (k.wrap (a ||| b).toNat))
  | .xor => some (.int k (k.wrap (a ^^^ b).toNat))
  | .andNot => some (.int k (k.wrap (a &&& ~~~b).toNat))
  | _ => none

def intOp (op : BinOp) (k : IntKind) (x y : Int) : M AV :=
  match op with
  | .add => pure (.int k (k.wrap (x + y)))
  | .sub => pure (.int k (k.wrap (x - y)))
  | .mul => pure (.int k (k.wrap (x * y)))
  | .quo => do check (decide (y ≠ 0)); pure (.int k (k.wrap (x.tdiv y)))
  | .rem => do check (decide (y ≠ 0)); pure (.int k (x.tmod y))
  | .and | .or | .xor | .andNot => lift (bitsOp op k x y)
  | .eql => pure (.bool (x == y))
  | .neq => pure (.bool (x != y))
  | .lss => pure (.bool (decide (x < y)))
  | .leq => pure (.bool (decide (x ≤ y)))
  | .gtr => pure (.bool (decide (x > y)))
  | .geq => pure (.bool (decide (x ≥ y)))
  | _ => fail

def strOp (op : BinOp) (x y : List Nat) : M AV :=
  match op with
  | .add => do check (Nat.ble (x.length + y.length) 4611686018427387904); pure (.str (x ++ y))
  | .eql => pure (.bool (eqNats x y))
  | .neq => pure (.bool (!eqNats x y))
  | .lss => pure (.bool (ltNats x y))
  | .leq => pure (.bool (ltNats x y || eqNats x y))
  | .gtr => pure (.bool (!(ltNats x y || eqNats x y)))
  | .geq => pure (.bool (!ltNats x y))
  | _ => fail

def isConst : Operand → Bool
  | .const _ => true
  | _ => false

/-- Two structs, or arrays, of whole numbers and bools: cell by cell. -/
def eqCells : List (Option IntKind) → List AV → List AV → Option Bool
  | [], [], [] => some true
  | none :: ks, .bool a :: x, .bool b :: y => match eqCells ks x y with | some r => some ((a == b) && r) | none => none
  | some k :: ks, .int i a :: x, .int j b :: y => if k = i && k = j then (match eqCells ks x y with | some r => some ((a == b) && r) | none => none) else none
  | _, _, _ => none

/-- Does a reference still hold? -/
def holdsA (h : Heap) (b gen : Nat) : Bool :=
  match h.at b with
  | some (.mem _ _ g _ _) => Nat.beq g gen
  | _ => false

/-- '==' of two values that are no numbers and no strings. -/
def eqOp (E : Env) (h : Heap) (t : Nat) (x y : Operand) (a b : AV) : Option Bool :=
  match E.ti t with
  | none => none
  | some ti =>
    match ti.desc, unfz a, unfz b with
    | .bool, .bool p, .bool q => some (p == q)
    | .iface _, .niliface, .niliface => if isConst x || isConst y then some true else none
    | .iface _, .iface _ _, .niliface => some false
    | .iface _, .niliface, .iface _ _ => some false
    | .iface _, .iface t1 (.int k m), .iface t2 (.int j n) => if Nat.beq t1 t2 then (match E.ti t1 with
        | some { cmp := true, desc := .int _, .. } => if k = j then some (m == n) else none
        | _ => none) else some false
    | .slice _, .nilslice, .nilslice => some true
    | .slice _, .fslice _ _ len _ nn, .nilslice => if nn || Nat.blt 0 len then some false else none
    | .slice _, .mslice p gen _ _ _ _, .nilslice => if holdsA h p gen then some false else none
    | .ptr _, .nilptr, .nilptr => some true
    | .ptr _, .ptr p gen _, .nilptr => if holdsA h p gen then some false else none
    | .ptr _, .fptr _ _, .nilptr => some false
    | .ptr e, .ptr p gen o, .ptr q gen' o' => match E.ti e with
      | some ei => if Nat.beq p q && Nat.beq gen gen' && holdsA h p gen && Nat.blt 0 ei.size then some (Nat.beq o o') else none
      | none => none
    | _, .agg xs, .agg ys => match E.eqAgg t with | some ks => eqCells ks xs ys | none => none
    | _, _, _ => none

def binOpA (E : Env) (h : Heap) (op : BinOp) (t : Nat) (x y : Operand) (a b : AV) : M AV :=
  match a, b with
  | .int k m, .int k' n =>
    match op with
    | .shl | .shr => lift (shiftOp op k m n)
    | _ => if k = k' then intOp op k m n else fail
  | .str s, .str u => strOp op s u
  | _, _ =>
    match op with
    | .eql => do let r ← lift (eqOp E h t x y a b); pure (.bool r)
    | .neq => do let r ← lift (eqOp E h t x y a b); pure (.bool (!r))
    | _ => fail

def unOpA (op : UnOp) (x : AV) : Option AV :=
  match op, x with
  | .neg, .int k n => some (.int k (k.wrap (0 - n)))
  | .xor, .int k n => bitsOp .xor k (if k.signed then -1 else k.max) n
  | .not, .bool b => some (.bool (!b))
  | _, _ => none

/-- Parts filled into cells. -/
def fillA (place : Nat → Option (Nat × Nat)) (cells : List AV) : List (Nat × AV) → Option (List AV)
  | [] => some cells
  | (i, v) :: rest =>
    match place i with
    | none => none
    | some (off, size) =>
      let vs := v.cells
      if notJunk v && (Nat.beq vs.length size && Nat.ble (off + size) cells.length) then fillA place (setsL cells off vs) rest else none

def buildA (E : Env) (t : Nat) (parts : List (Nat × AV)) : Option AV :=
  match E.ti t with
  | none => none
  | some ti =>
    match ti.desc with
    | .struct fs =>
      match fillA (fun i => match getL fs i with
        | some (ft, off) => match E.ti ft with
          | some fi => some (off, fi.size)
          | none => none
        | none => none) ti.zero parts with
      | some cells => some (.agg cells)
      | none => none
    | .array _ e =>
      match E.ti e with
      | some ei => match fillA (fun i => some (i * ei.size, ei.size)) ti.zero parts with
        | some cells => some (.agg cells)
        | none => none
      | none => none
    | _ => none

/-- A place further on. -/
def moveBy (n : Nat) : AV → Option AV
  | .ptr b gen off => some (.ptr b gen (off + n))
  | .fptr cells off => some (.fptr cells (off + n))
  | .gptr g off => some (.gptr g (off + n))
  | _ => none

def fieldAddrA (E : Env) (s : Nat) (x : AV) (f : Nat) : Option AV :=
  match E.ti s with
  | some { desc := .struct fs, .. } =>
    match getL fs f with
    | some (ft, off) => match E.ti ft with
      | some fi => if fi.size = 0 then none else moveBy off x
      | none => none
    | none => none
  | _ => none

def partA (E : Env) (t : Nat) (cells : List AV) (off : Nat) : Option AV :=
  match E.ti t with
  | some ti => if ti.desc.agg then (cellsAt cells off ti.size).map .agg else getL (dropL cells off) 0
  | none => none

def fieldA (E : Env) (s : Nat) (x : AV) (f : Nat) : Option AV :=
  match E.ti s, x with
  | some { desc := .struct fs, .. }, .agg cells =>
    match getL fs f with
    | some (ft, off) => partA E ft cells off
    | none => none
  | _, _ => none

def inRange (i : Int) (n : Nat) : Bool := decide (0 ≤ i) && decide (i < n)

def indexAddrA (E : Env) (t : Nat) (x i : AV) : M AV :=
  match i with
  | .int _ n =>
    match E.ti t with
    | none => fail
    | some ti =>
      match ti.desc with
      | .slice e =>
        match E.ti e with
        | none => fail
        | some ei =>
          match x with
          | .fslice cells esz len _ _ => if esz = ei.size then do check (inRange n len); pure (.fptr cells (n.toNat * esz)) else fail
          | .mslice b gen off esz len _ => if esz = ei.size then do check (inRange n len); pure (.ptr b gen (off + n.toNat * esz)) else fail
          | _ => fail
      | .array len e =>
        match E.ti e with
        | some ei => do check (inRange n len); lift (moveBy (n.toNat * ei.size) x)
        | none => fail
      | _ => fail
  | _ => fail

def indexA (E : Env) (t : Nat) (x i : AV) : M AV :=
  match i with
  | .int _ n =>
    match E.ti t with
    | none => fail
    | some ti =>
      match ti.desc with
      | .string =>
        match x with
        | .str s => do
          check (inRange n s.length)
          pure (.int .u8 ((getL s n.toNat).getD 0 : Nat))
        | _ => fail
      | .array len e =>
        match x with
        | .agg cells =>
          match E.ti e with
          | some ei => do check (inRange n len); readCell (partA E e cells (n.toNat * ei.size))
          | none => fail
        | _ => fail
      | _ => fail
  | _ => fail

def boundA (x : Option AV) (dflt : Nat) : Option Int :=
  match x with
  | some (.int _ n) => some n
  | some _ => none
  | none => some dflt

def boundsA (lo hi mx : Option AV) (len : Nat) : Option (Int × Int × Int) :=
  match boundA lo 0, boundA hi len, boundA mx len with
  | some l, some h, some m => if mx.isSome && hi.isNone then none else some (l, h, m)
  | _, _, _ => none

def sliceFull (mx : Option AV) (full : Bool) (h m : Int) (len : Nat) : Bool :=
  match mx with
  | some _ => decide (h = m)
  | none => full && decide (h = (len : Nat))

def sliceA (E : Env) (hp : Heap) (t : Nat) (x : AV) (lo hi mx : Option AV) : M AV :=
  match E.ti t with
  | none => fail
  | some ti =>
    match ti.desc with
    | .string =>
      match x, mx with
      | .str s, none => do
        let b ← lift (boundsA lo hi none s.length)
        check (decide (0 ≤ b.1) && decide (b.1 ≤ b.2.1) && decide (b.2.1 ≤ b.2.2))
        pure (.str ((dropL s b.1.toNat).take (b.2.1.toNat - b.1.toNat)))
      | _, _ => fail
    | .slice et =>
      match E.ti et with
      | none => fail
      | some ei =>
        match x with
        | .nilslice => do
          let b ← lift (boundsA lo hi mx 0)
          check (decide (b.1 = 0) && decide (b.2.1 = 0) && decide (b.2.2 = 0))
          pure .nilslice
        | .fslice cells esz len full nn =>
          if esz = ei.size then do
            let b ← lift (boundsA lo hi mx len)
            check (decide (0 ≤ b.1) && decide (b.1 ≤ b.2.1) && decide (b.2.1 ≤ b.2.2) && decide (b.2.2 ≤ (len : Nat)))
            pure (.fslice ((dropL cells (b.1.toNat * esz)).take ((b.2.1.toNat - b.1.toNat) * esz)) esz (b.2.1.toNat - b.1.toNat)
              (sliceFull mx full b.2.1 b.2.2 len) nn)
          else fail
        | .mslice p gen off esz len full =>
          if esz = ei.size then do
            let b ← lift (boundsA lo hi mx len)
            check (decide (0 ≤ b.1) && decide (b.1 ≤ b.2.1) && decide (b.2.1 ≤ b.2.2) && decide (b.2.2 ≤ (len : Nat)))
            let e ← decideB (decide (b.1 = b.2.1))
            if e && (!decide (b.1 = 0) || mx.isSome) then pure (.fslice [] esz 0 (sliceFull mx full b.2.1 b.2.2 len) true)
            else pure (.mslice p gen (off + b.1.toNat * esz) esz (b.2.1.toNat - b.1.toNat) (sliceFull mx full b.2.1 b.2.2 len))
          else fail
        | _ => fail
    | .array n e =>
      match x, mx with
      | .ptr p gen off, none =>
        match E.ti e with
        | some ei => do
          let room ← lift (hp.mem p gen)
          check (Nat.ble (off + n * ei.size) room.1.length)
          let b ← lift (boundsA lo hi none n)
          check (decide (0 ≤ b.1) && decide (b.1 ≤ b.2.1) && decide (b.2.1 ≤ (n : Nat)))
          let q ← decideB (decide (b.1 = b.2.1))
          if q then pure (.fslice [] ei.size 0 (decide (b.2.1 = (n : Nat))) true)
          else pure (.mslice p gen (off + b.1.toNat * ei.size) ei.size (b.2.1.toNat - b.1.toNat) (decide (b.2.1 = (n : Nat))))
        | none => fail
      | _, _ => fail
    | _ => fail

def u8Nat : AV → Option Nat
  | .int .u8 n => if decide (0 ≤ n) && decide (n < 256) then some n.toNat else none
  | _ => none

def mapO {α β : Type} (f : α → Option β) : List α → Option (List β)
  | [] => some []
  | a :: r => match f a, mapO f r with
    | some b, some bs => some (b :: bs)
    | _, _ => none

/-- The UTF-8 of a rune, and of runes. -/
def encR (n : Int) : List Nat := bytesOf (Utf8.encode n)

/-- Has each element so many cells? -/
def eszIs (n : Nat) : AV → Bool
  | .nilslice => true
  | .fslice _ e _ _ _ => Nat.beq e n
  | .mslice _ _ _ e _ _ => Nat.beq e n
  | .str _ => Nat.beq 1 n
  | _ => false

def isSlice : AV → Bool
  | .nilslice | .fslice .. | .mslice .. => true
  | _ => false

/-- A whole variable of the block's own type, at the block's beginning. -/
def wholeA (E : Env) (h : Heap) (p b gen off : Nat) : Bool :=
  match E.ti p with
  | none => false
  | some pi =>
    match h.mem b gen with
    | none => false
    | some (cells, elem, _, _) => Nat.beq elem p && (Nat.beq off 0 && (Nat.ble pi.size cells.length && Nat.blt 0 pi.size))

def isU8 (E : Env) (e : Nat) : Bool :=
  match E.ti e with
  | none => false
  | some ei => match ei.desc with
    | .int k => decide (k = .u8)
    | _ => false

def convertA (E : Env) (h : Heap) (src dst : Nat) (x : AV) : M AV :=
  match E.ti src with
  | none => fail
  | some si =>
    match E.ti dst with
    | none => fail
    | some di =>
      match x with
      | .int _ n =>
        match di.desc with
        | .int k => pure (.int k (k.wrap n))
        | .string => pure (.str (encR n))
        | _ => fail
      | .str s =>
        match di.desc with
        | .string => pure (.str s)
        | _ => fail
      | .nilptr =>
        match si.desc, di.desc with
        | .ptr _, .upt => pure .nilptr
        | .upt, .ptr _ => pure .nilptr
        | _, _ => fail
      | .ptr b gen off =>
        match si.desc, di.desc with
        | .ptr p, .upt => if wholeA E h p b gen off then pure (.ptr b gen off) else fail
        | .upt, .ptr p => if wholeA E h p b gen off then pure (.ptr b gen off) else fail
        | _, _ => fail
      | x =>
        match si.desc with
        | .slice e =>
          match di.desc with
          | .string =>
            if isU8 E e && (isSlice x && eszIs 1 x) then
              match contents h x with
              | none => fail
              | some (cells, _) => do
                let s ← readNats (mapO u8Nat cells)
                pure (.str s)
            else fail
          | _ => fail
        | _ => fail

def typeAssertA (E : Env) (x : AV) (asserted : Nat) (commaOk : Bool) : Option AV :=
  match E.ti asserted with
  | some ti =>
    match ti.desc with
    | .iface _ => none
    | _ =>
      match unfz x with
      | .iface t v => if t = asserted then some (if commaOk then .tuple [v, .bool true] else v)
        else if commaOk then some (.tuple [zeroOf ti, .bool false]) else none
      | .niliface => if commaOk then some (.tuple [zeroOf ti, .bool false]) else none
      | _ => none
  | none => none

def lenA (E : Env) (t : Nat) (x : AV) : Option AV :=
  match E.ti t with
  | some { desc := .array n _, .. } => some (.int .i64 n)
  | some { desc := .string, .. } => match x with
    | .str s => some (.int .i64 s.length)
    | _ => none
  | some { desc := .slice _, .. } => match x with
    | .nilslice => some (.int .i64 0)
    | .fslice _ _ len _ _ | .mslice _ _ _ _ len _ => some (.int .i64 len)
    | _ => none
  | _ => none

def capA (E : Env) (t : Nat) (x : AV) : Option AV :=
  match E.ti t with
  | some { desc := .array n _, .. } => some (.int .i64 n)
  | some { desc := .slice _, .. } => match x with
    | .nilslice => some (.int .i64 0)
    | .fslice _ _ len true _ | .mslice _ _ _ _ len true => some (.int .i64 len)
    | _ => none
  | _ => none

def minMax (mx : Bool) : List AV → Option AV
  | .int k x :: r => go k x r
  | _ => none
where
  go (k : IntKind) (x : Int) : List AV → Option AV
    | [] => some (.int k x)
    | .int _ y :: r => go k (if mx then (if y > x then y else x) else (if y < x then y else x)) r
    | _ => none

def dwords : AV → Option Int
  | .int .u64 n => some n
  | _ => none

end Go.Am
end
noncomputable section
namespace Go.Am

/-! ## Operations that read or make memory -/

/-- What an operation comes to: a value, and the blocks that it lays or turns. -/
structure Out where
  val : AV
  upd : List (Nat × Blk)
  deriving Inhabited

def out (v : AV) : M Out := pure ⟨v, []⟩

def loadA (E : Env) (h : Heap) (t : Nat) (p : AV) : M AV :=
  match E.ti t, target E h p with
  | some ti, some (cells, off) =>
    if ti.desc.agg then do let cs ← readCells (cellsAt cells off ti.size); pure (.agg cs)
    else readCell (getL (dropL cells off) 0)
  | _, _ => fail

def storeA (E : Env) (h : Heap) (t : Nat) (p v : AV) : M Out :=
  match E.ti t, p with
  | some ti, .ptr b gen off =>
    match h.mem b gen with
    | some (cells, elem, false, pr) => do
      let vs := v.cells
      check (allCells vs)
      if Nat.beq vs.length ti.size && Nat.ble (off + ti.size) cells.length then
        pure ⟨.tuple [], [(b, .mem (setsL cells off vs) elem gen false (pr && isPure.allPure vs))]⟩
      else fail
    | _ => fail
  | _, _ => fail

def buildSliceA (E : Env) (t len slot : Nat) (parts : List (Nat × AV)) : Option Out :=
  match E.ti t with
  | some { desc := .slice e, .. } =>
    match E.ti e with
    | some ei =>
      if Nat.ble (len * ei.size) 65536 && Nat.blt 0 ei.size then
        match fillA (fun i => some (i * ei.size, ei.size)) ((List.replicate len ei.zero).flatten) parts with
        | some cells => some ⟨.mslice slot 0 0 ei.size len true, [(slot, .mem cells e 0 false (isPure.allPure cells))]⟩
        | none => none
      else none
    | none => none
  | _ => none

def makeSliceA (E : Env) (t slot : Nat) (l c : AV) : M Out :=
  match E.ti t, l, c with
  | some { desc := .slice e, .. }, .int .i64 l, .int .i64 c =>
    match E.ti e with
    | some ei => do
      check (decide (0 ≤ l) && decide (l ≤ c) && decide (c * ei.bytes ≤ 17592186044416) && decide (c ≤ 17592186044416))
      pure ⟨.mslice slot 0 0 ei.size l.toNat (decide (l = c)), [(slot, .mem ((List.replicate c.toNat ei.zero).flatten) e 0 false true)]⟩
    | none => fail
  | _, _, _ => fail

/-- May a slice's memory be written behind its last element? Then: whose it is. -/
def roomOf : AV → Option (Option (Nat × Nat × Nat))
  | .nilslice | .fslice _ _ _ true _ | .mslice _ _ _ _ _ true => some none
  | .mslice b gen off _ _ false => some (some (b, gen, off))
  | _ => none

/-- append: elements behind a slice's last one. -/
def appendA (E : Env) (h : Heap) (t slot : Nat) (s x : AV) : M Out :=
  match E.ti t with
  | none => fail
  | some ti =>
    match ti.desc with
    | .slice e =>
      match E.ti e with
      | none => fail
      | some ei =>
        match contents h x with
        | none => fail
        | some (new, n, npure) =>
          if eszIs ei.size x && (eszIs ei.size s && isSlice s) then do
            let nil ← decideB (decide (n = 0))
            if nil then pure ⟨s, []⟩ else
            match contents h s with
            | none => fail
            | some (old, len, opure) => do
              check (allCells new && (Nat.ble ((len + n) * ei.bytes) 17592186044416 && Nat.ble (len + n) 17592186044416))
              match roomOf s with
              | none => fail
              | some none => pure ⟨.mslice slot 0 0 ei.size (len + n) false, [(slot, .mem (old ++ new) e 0 false (opure && npure))]⟩
              | some (some (b, gen, off)) =>
                match h.mem b gen with
                | none => fail
                | some (_, elem, ro, _) =>
                  if !ro && (Nat.beq off 0 && Nat.beq elem e) then
                    pure ⟨.mslice b (gen + 1) 0 ei.size (len + n) false, [(b, .mem (old ++ new) e (gen + 1) false (opure && npure))]⟩
                  else fail
          else fail
    | _ => fail

def copyA (E : Env) (h : Heap) (t : Nat) (d s : AV) : M Out :=
  match E.ti t with
  | none => fail
  | some ti =>
    match ti.desc with
    | .slice e =>
      match E.ti e with
      | none => fail
      | some ei =>
        match contents h s with
        | none => fail
        | some (src, slen, spure) =>
          if eszIs ei.size s && allCells src then
            match d with
            | .nilslice => pure ⟨.int .i64 0, []⟩
            | .fslice _ _ 0 _ _ => pure ⟨.int .i64 0, []⟩
            | .mslice b gen off esz dlen _ =>
              match h.mem b gen with
              | none => fail
              | some (cells, elem, ro, pr) =>
                let n := Nat.min slen dlen
                if !ro && (Nat.beq esz ei.size && Nat.ble (off + n * esz) cells.length) then
                  pure ⟨.int .i64 n, [(b, .mem (cells.take off ++ (src.take (n * esz) ++ cells.drop (off + n * esz))) elem gen false (pr && spure))]⟩
                else fail
            | _ => fail
          else fail
    | _ => fail

def bytesA (E : Env) (src : Nat) : Bool :=
  match E.ti src with
  | none => false
  | some ti => match ti.desc with
    | .slice e => isU8 E e
    | _ => false

def strToBytes (E : Env) (t slot : Nat) (s : List Nat) : Option Out :=
  match E.ti t with
  | none => none
  | some ti => match ti.desc with
    | .slice e => if isU8 E e then some ⟨.mslice slot 0 0 1 s.length false, [(slot, .mem (s.map fun (b : Nat) => AV.int .u8 b) e 0 false true)]⟩ else none
    | _ => none

/-- unsafe.String over a block of bytes: the block is never written again. -/
def unsafeStringA (E : Env) (h : Heap) (t : Nat) (p n : AV) : M Out :=
  match n with
  | .int .i64 n => do
    check (decide (0 ≤ n) && decide (n ≤ 9223372036854775807))
    let e ← decideB (decide (n = 0))
    if e then (match p with
      | .ptr .. | .nilptr => pure ⟨.str [], []⟩
      | _ => fail)
    else
    match E.ti t with
    | none => fail
    | some ti =>
      match ti.desc with
      | .ptr bt =>
        match E.ti bt with
        | none => fail
        | some bi =>
          match p with
          | .ptr b gen off =>
            match h.mem b gen with
            | none => fail
            | some (cells, elem, ro, pr) =>
              if Nat.beq bi.size 1 && (Nat.beq off 0 && (Nat.beq elem bt && (pr && !ro))) then do
                let cs ← readCells (takeL cells n.toNat)
                let s ← readNats (mapO u8Nat cs)
                pure ⟨.str s, [(b, .mem cells elem gen true true)]⟩
              else fail
          | _ => fail
      | _ => fail
  | _ => fail

def nextA (h : Heap) (p : AV) : M Out :=
  match p with
  | .ptr b 0 0 =>
    match h.at b with
    | some (.iter s pos) => do
      let more ← decideB (Nat.blt pos s.length)
      if more then do
        let d ← readPair (Utf8.decode ⟨(s.map UInt8.ofNat).toArray⟩ pos)
        pure ⟨.tuple [.bool true, .int .i64 pos, .int .i32 d.1], [(b, .iter s (pos + d.2))]⟩
      else pure ⟨.tuple [.bool false], []⟩
    | _ => fail
  | _ => fail

/-! ## Calls: which memory goes along -/

/-- The blocks that a value names. -/
def refs : AV → List Nat
  | .ptr b _ _ => [b]
  | .mslice b _ _ _ _ _ => [b]
  | .iface _ v => refs v
  | .func _ vs => refsL vs
  | .agg vs => refsL vs
  | .tuple vs => refsL vs
  | _ => []
where
  refsL : List AV → List Nat
    | [] => []
    | a :: r => refs a ++ refsL r

def memB (b : Nat) : List Nat → Bool
  | [] => false
  | a :: r => Nat.beq a b || memB b r

/-- All blocks that can be reached from some, in the order in which they are met. -/
def reach (h : Heap) : Nat → List Nat → List Nat → Option (List Nat)
  | 0, _, _ => none
  | _ + 1, seen, [] => some seen
  | n + 1, seen, b :: r =>
    if memB b seen then reach h n seen r else
    match h.at b with
    | some (.mem cells _ _ _ pr) => reach h n (seen ++ [b]) (if pr then r else refs.refsL cells ++ r)
    | some (.iter ..) => reach h n (seen ++ [b]) r
    | none => none

def idxOf (b : Nat) : List Nat → Nat → Option Nat
  | [], _ => none
  | a :: r, i => if Nat.beq a b then some i else idxOf b r (i + 1)

/-- A value by other names of its blocks; what has none becomes junk. -/
def rename (f : Nat → Option Nat) : AV → AV
  | .ptr b g o => match f b with
    | some c => .ptr c g o
    | none => .junk
  | .mslice b g o e l fl => match f b with
    | some c => .mslice c g o e l fl
    | none => .junk
  | .iface t v => .iface t (rename f v)
  | .func n vs => .func n (renameL f vs)
  | .agg vs => .agg (renameL f vs)
  | .tuple vs => .tuple (renameL f vs)
  | v => v
where
  renameL (f : Nat → Option Nat) : List AV → List AV
    | [] => []
    | a :: r => rename f a :: renameL f r

def renameB (f : Nat → Option Nat) : Blk → Blk
  | .mem cells e g ro pr => .mem (if pr then cells else rename.renameL f cells) e g ro pr
  | b => b

/-- A value that names no block any more: what its blocks hold is laid out in it; and the blocks, which may not change any more. -/
def freeze (h : Heap) : Nat → AV → Option (AV × List Nat)
  | 0, _ => none
  | n + 1, a =>
    match a with
    | .ptr b gen off =>
      match h.mem b gen with
      | some (cells, _, _, pr) =>
        match (if pr then some (cells, []) else freezeL h n cells) with
        | some (cs, bs) => some (.fptr cs off, b :: bs)
        | none => none
      | none => none
    | .mslice b gen off esz len full =>
      match h.mem b gen with
      | some (cells, _, _, pr) =>
        match (if pr then some (cells, []) else freezeL h n cells) with
        | some (cs, bs) => match cellsAt cs off (len * esz) with
          | some cs => some (.fslice cs esz len full true, b :: bs)
          | none => none
        | none => none
      | none => none
    | .iface t v => match freeze h n v with
      | some (v, bs) => some (.iface t v, bs)
      | none => none
    | .func f vs => match freezeL h n vs with
      | some (vs, bs) => some (.func f vs, bs)
      | none => none
    | .agg vs => match freezeL h n vs with
      | some (vs, bs) => some (.agg vs, bs)
      | none => none
    | .tuple vs => match freezeL h n vs with
      | some (vs, bs) => some (.tuple vs, bs)
      | none => none
    | .junk => none
    | a => some (a, [])
where
  freezeL (h : Heap) : Nat → List AV → Option (List AV × List Nat)
    | 0, _ => none
    | _ + 1, [] => some ([], [])
    | n + 1, a :: r => match freeze h n a, freezeL h n r with
      | some (a, bs), some (r, cs) => some (a :: r, bs ++ cs)
      | _, _ => none

end Go.Am
end
noncomputable section
namespace Go.Am

abbrev CallF := Nat → List AV → Heap → M (AV × Heap)

/-- A value of which nothing lies in memory. -/
def scal : AV → Bool
  | .bool _ | .int _ _ | .str _ | .nilptr | .nilslice | .nilfunc | .niliface | .gptr _ _ => true
  | .tuple vs => scalL vs
  | .agg vs => scalL vs
  | .iface _ v => scal v
  | .func _ vs => scalL vs
  | _ => false
where
  scalL : List AV → Bool
    | [] => true
    | a :: r => scal a && scalL r

def keeps : AV → Bool
  | .ptr .. => true
  | .func _ vs => !isPure.allPure vs
  | _ => false

/-- Arguments: some go along as they are, the others are frozen. -/
def prep (h : Heap) (look : Bool) : List Bool → List AV → Option (List AV × List Nat × List Nat)
  | _, [] => some ([], [], [])
  | ks, a :: r =>
    match prep h look ks.tail r with
    | none => none
    | some (r', fz, kept) =>
      if (ks.head?).getD false || (!look && keeps a) then some (a :: r', fz, refs a ++ kept)
      else match freeze h 4096 a with
        | some (a', bs) => some (a' :: r', bs ++ fz, kept)
        | none => none

def disjoint : List Nat → List Nat → Bool
  | [], _ => true
  | a :: r, bs => !memB a bs && disjoint r bs

def markRo : Blk → Blk
  | .mem cells e g _ pr => .mem cells e g true pr
  | b => b

def markAll (h : Heap) : List Nat → List (Nat × Blk)
  | [] => []
  | b :: r => match h.at b with
    | some (.mem _ _ _ true _) => markAll h r
    | some x => (b, markRo x) :: markAll h r
    | none => markAll h r

def blksOf (h : Heap) (f : Nat → Option Nat) : List Nat → Option (List (Option Blk))
  | [] => some []
  | b :: r => match h.at b, blksOf h f r with
    | some x, some xs => some (some (renameB f x) :: xs)
    | _, _ => none

def updsOf (h : Heap) (f : Nat → Option Nat) (marks : List Nat) : List Nat → Option (List (Nat × Blk))
  | [] => some []
  | i :: r => match h.at i, f i, updsOf h f marks r with
    | some x, some b, some u => some ((b, let y := renameB f x; if memB i marks then markRo y else y) :: u)
    | _, _, _ => none

/-- Names of a callee's blocks for its caller: the first are the caller's own, the others are new. -/
def backName (ids keep : List Nat) (base : Nat) (i : Nat) : Option Nat :=
  match getL ids i with
  | some b => some b
  | none => match idxOf i keep 0 with
    | some k => some (base + k)
    | none => none

/-- What a block's cells name. -/
def ownRefs (h : Heap) (i : Nat) : List Nat :=
  match h.at i with
  | some (.mem cells _ _ _ pr) => if pr then [] else refs.refsL cells
  | _ => []

structure Called where
  val : AV
  upd : List (Nat × Blk)
  rd : List Nat

def callVia (OKp : Nat → List AV → Heap → AV → Heap → Prop) (callF : CallF) : CallF := fun f args h t =>
  match nxt t.scr with
  | (none, r) => callF f args h ⟨r, t.ob⟩
  | (some (.ret v h'), r) => some ((v, h'), ⟨r, OKp f args h v h' :: t.ob⟩)
  | _ => none

def doCall (E : Env) (callF : CallF) (f : Nat) (args : List AV) (h : Heap) (base : Nat) : M Called :=
  let mode := E.mode f
  match prep h mode.look mode.keep args with
  | none => fail
  | some (args1, fz, kept) =>
    match reach h 65536 [] kept with
    | none => fail
    | some ids =>
      if disjoint fz ids then
        let ρ := fun b => idxOf b ids 0
        match blksOf h ρ ids with
        | none => fail
        | some hs => do
          let (res, hs') ← callF f (rename.renameL ρ args1) hs
          match (if mode.own then some (res, []) else freeze hs' 4096 res) with
          | none => fail
          | some (res1, fz2) =>
            if mode.borrow then do
              check (scal res1)
              if Nat.beq ids.length 0 then pure ⟨res1, [], fz⟩ else fail
            else
            let m := ids.length
            match reach hs' 65536 (List.range m) (((List.range m).flatMap (ownRefs hs')) ++ refs res1) with
            | none => fail
            | some all =>
              let keep := all.drop m
              let back := backName ids keep base
              match updsOf hs' back fz2 all with
              | none => fail
              | some upd => pure ⟨rename back res1, upd ++ markAll h fz, fz ++ ids⟩
      else fail

/-- One operation: its value, what it turns, what it reads, what it defers. -/
structure Did where
  val : AV
  upd : List (Nat × Blk)
  rd : List Nat
  dfr : List AV

def plainly (m : M AV) : M Did := do let v ← m; pure ⟨v, [], [], []⟩
def reading (rd : List Nat) (m : M AV) : M Did := do let v ← m; pure ⟨v, [], rd, []⟩
def turning (rd : List Nat) (m : M Out) : M Did := do let o ← m; pure ⟨o.val, o.upd, rd, []⟩

def parts (ρ : Operand → AV) (ps : Array (Nat × Operand)) : List (Nat × AV) := ps.toList.map fun (i, x) => (i, ρ x)

def byteOk (c : Int) : Bool := decide (0 ≤ c) && decide (c < 256)

def primA (E : Env) (p : Prim) (slot : Nat) (args : List AV) : M Out :=
  match p, args with
  | .add64, [.int _ x, .int _ y, .int _ c] => do
    check (Nat.ble c.toNat 1)
    let s := x.toNat + y.toNat + c.toNat
    out (.tuple [.int .u64 ((s % 18446744073709551616 : Nat) : Int), .int .u64 ((s / 18446744073709551616 : Nat) : Int)])
  | .sub64, [.int _ x, .int _ y, .int _ c] => do
    check (Nat.ble c.toNat 1)
    out (.tuple [.int .u64 (((x.toNat + 18446744073709551616 - y.toNat - c.toNat) % 18446744073709551616 : Nat) : Int), .int .u64 (if x.toNat < y.toNat + c.toNat then 1 else 0)])
  | .countString, [.str s, .int .u8 c] => do
    check (byteOk c)
    let n ← hintI (s.filter (fun (b : Nat) => (b : Int) == c)).length
    out (.int .i64 n)
  | .indexByteString, [.str s, .int .u8 c] => do
    check (byteOk c)
    let n ← hintI (match s.findIdx? (fun (b : Nat) => (b : Int) == c) with | some i => (i : Int) | none => -1)
    out (.int .i64 n)
  | .cmpString, [.str a, .str b] => out (.int .i64 (if ltNats a b then -1 else if eqNats a b then 0 else 1))
  | .noEscape, [x] => out x
  | .makeNoZero, [.int .i64 n] => do
    check (decide (0 ≤ n) && decide (n ≤ 17592186044416))
    pure ⟨.mslice slot 0 0 1 n.toNat false, [(slot, .mem (List.replicate n.toNat .junk) E.byteT 0 false false)]⟩
  | _, _ => fail

def builtinA (E : Env) (h : Heap) (slot : Nat) (b : Builtin) (args : List AV) (ts : List Nat) : M Did :=
  match b with
  | .len => match args, ts with
    | [x], [t] => plainly (lift (lenA E t x))
    | _, _ => fail
  | .cap => match args, ts with
    | [x], [t] => plainly (lift (capA E t x))
    | _, _ => fail
  | .append => match args, ts with
    | [s, x], [t, u] =>
      match E.ti u with
      | none => fail
      | some ui => if (match ui.desc with | .slice _ | .string => true | _ => false) then turning (refs s ++ refs x) (appendA E h t slot s x) else fail
    | _, _ => fail
  | .copy => match args, ts with
    | [d, s], t :: _ => turning (refs d ++ refs s) (copyA E h t d s)
    | _, _ => fail
  | .max => plainly (lift (minMax true args))
  | .min => plainly (lift (minMax false args))
  | .unsafeString => match args, ts with
    | [p, n], [t, _] => turning (refs p) (unsafeStringA E h t p n)
    | _, _ => fail
  | .unsafeSliceData => match args with
    | [.nilslice] => plainly (pure .nilptr)
    | [.mslice b g off _ len _] => plainly do check (Nat.blt 0 len); pure (.ptr b g off)
    | _ => fail
  | _ => fail

/-- A call of a function of the program's. -/
def userA (E : Env) (callF : CallF) (g : Nat) (args : List AV) (h : Heap) (base : Nat) : M Did :=
  match E.fn g with
  | none => fail
  | some _ => do
    let d ← doCall E callF g args h base
    pure ⟨d.val, d.upd, d.rd, []⟩

def callA (E : Env) (callF : CallF) (c : Call) (slot base : Nat) (S : St) : M Did :=
  match c.callee with
  | .value f => match evalO S.tmps f with
    | .func g vs =>
      match E.prim g with
      | some p => turning [] (primA E p slot (c.args.toList.map (evalO S.tmps) ++ vs))
      | none => userA E callF g (c.args.toList.map (evalO S.tmps) ++ vs) S.heap base
    | _ => fail
  | .invoke recv name => match unfz (evalO S.tmps recv) with
    | .iface t v => match E.meth t name with
      | some g => userA E callF g (v :: c.args.toList.map (evalO S.tmps)) S.heap base
      | none => fail
    | _ => fail
  | .builtin b => builtinA E S.heap slot b (c.args.toList.map (evalO S.tmps)) c.argTypes.toList

def deferA (c : Call) (S : St) : M Did :=
  match c.callee with
  | .value f => if c.args.isEmpty then (match evalO S.tmps f with
    | .func g vs => pure ⟨.tuple [], [], [], [.func g vs]⟩
    | _ => fail) else fail
  | _ => fail

def convA (E : Env) (h : Heap) (slot s d : Nat) (x : AV) : M Did :=
  match x with
  | .str b => if bytesA E d then (match E.ti s with
      | none => fail
      | some si => match si.desc with
        | .string => turning [] (lift (strToBytes E d slot b))
        | _ => fail)
    else plainly (convertA E h s d (.str b))
  | x => reading (refs x) (convertA E h s d x)

def nilCheckA (x : AV) : M AV :=
  match x with
  | .ptr _ _ _ => pure x
  | .fptr _ _ => pure x
  | .gptr _ _ => pure x
  | .func _ _ => pure x
  | _ => fail

def makeFuncA (f : Fn) (n : Nat) (vs : List AV) : M AV :=
  match f with
  | .func f => if Nat.beq n 0 then pure (.func f vs) else fail
  | _ => fail

def rangeA (E : Env) (t slot : Nat) (x : AV) : M Out :=
  match E.ti t with
  | none => fail
  | some ti => match ti.desc with
    | .string => match x with
      | .str s => pure ⟨.ptr slot 0 0, [(slot, .iter s 0)]⟩
      | _ => fail
    | _ => fail

def ifaceA (E : Env) (t : Nat) (x : AV) : M AV :=
  match E.ti t with
  | none => fail
  | some ti => match ti.desc with
    | .iface _ => fail
    | _ => pure (.iface t x)

def extractA (x : AV) (i : Nat) : Option AV :=
  match x with
  | .tuple vs => getL vs i
  | _ => none

def allocA (E : Env) (e slot : Nat) : M Out :=
  match E.ti e with
  | some ti => pure ⟨.ptr slot 0 0, [(slot, .mem ti.zero e 0 false true)]⟩
  | none => fail

def boxA (e slot : Nat) (x : AV) : M Out :=
  if notJunk x then pure ⟨.ptr slot 0 0, [(slot, .mem x.cells e 0 false (isPure.allPure x.cells))]⟩ else fail

def pickA (c a b : AV) : M AV := do
  let t ← branch c
  pure (if t then a else b)

/-- The blocks of which a slice's place is asked. -/
def sliceRefs : AV → List Nat
  | .ptr b _ _ => [b]
  | _ => []

def opA (E : Env) (callF : CallF) (o : Oper) (slot base : Nat) (S : St) : M Did :=
  match o.op with
  | .move x => plainly (pure (evalO S.tmps x))
  | .assign x => plainly (pure (evalO S.tmps x))
  | .pick c a b => plainly (pickA (evalO S.tmps c) (evalO S.tmps a) (evalO S.tmps b))
  | .alloc e => turning [] (allocA E e slot)
  | .box e x => turning [] (boxA e slot (evalO S.tmps x))
  | .build t ps => plainly (lift (buildA E t (parts (evalO S.tmps) ps)))
  | .buildSlice t n ps => turning [] (lift (buildSliceA E t n slot (parts (evalO S.tmps) ps)))
  | .load t a => reading (refs (evalO S.tmps a)) (loadA E S.heap t (evalO S.tmps a))
  | .store t a x => turning (refs (evalO S.tmps a)) (storeA E S.heap t (evalO S.tmps a) (evalO S.tmps x))
  | .nilCheck x => plainly (nilCheckA (evalO S.tmps x))
  | .binOp op t x y _ => reading (refs (unfz (evalO S.tmps x)) ++ refs (unfz (evalO S.tmps y))) (binOpA E S.heap op t x y (evalO S.tmps x) (evalO S.tmps y))
  | .unOp op _ x => plainly (lift (unOpA op (evalO S.tmps x)))
  | .convert s d x => convA E S.heap slot s d (evalO S.tmps x)
  | .makeInterface t x => plainly (ifaceA E t (evalO S.tmps x))
  | .makeFunc f first captured => plainly (makeFuncA f first.size (captured.toList.map (evalO S.tmps)))
  | .makeSlice t l c => turning [] (makeSliceA E t slot (evalO S.tmps l) (evalO S.tmps c))
  | .slice t x lo hi mx => reading (sliceRefs (evalO S.tmps x)) (sliceA E S.heap t (evalO S.tmps x) (lo.map (evalO S.tmps)) (hi.map (evalO S.tmps)) (mx.map (evalO S.tmps)))
  | .fieldAddr s x f => plainly (lift (fieldAddrA E s (evalO S.tmps x) f))
  | .field s x f => plainly (lift (fieldA E s (evalO S.tmps x) f))
  | .indexAddr t x i => plainly (indexAddrA E t (evalO S.tmps x) (evalO S.tmps i))
  | .index t x i => plainly (indexA E t (evalO S.tmps x) (evalO S.tmps i))
  | .range t x => turning [] (rangeA E t slot (evalO S.tmps x))
  | .next it str => if str then turning (refs (evalO S.tmps it)) (nextA S.heap (evalO S.tmps it)) else fail
  | .typeAssert x _ t ok => plainly (lift (typeAssertA E (evalO S.tmps x) t ok))
  | .extract x i => plainly (lift (extractA (evalO S.tmps x) i))
  | .defer c => deferA c S
  | .call c => callA E callF c slot base S
  | _ => fail

def putT (tmps : Tms) (d : Option Tmp) (v : AV) : Tms :=
  match d with
  | some d => Tms.set tmps d v
  | none => tmps

/-- Is an operation wanted? What it hangs on becomes known. -/
def wantedA (ops : Array Oper) (o : Oper) (S : St) : M (Bool × St) :=
  match o.guard with
  | none => pure (true, S)
  | some (j, want) =>
    match (ops[j]?).bind (·.dst) with
    | none => pure (false, S)
    | some d =>
      match Tms.at S.tmps d with
      | .bool b => do
        let c ← decideB b
        pure (c == want, { S with tmps := Tms.set S.tmps d (.bool c) })
      | .tuple [] => pure (false, S)
      | _ => fail

def didPut (o : Oper) (d : Did) (S : St) : St :=
  { tmps := putT S.tmps o.dst d.val, heap := S.heap.puts d.upd, defers := d.dfr ++ S.defers }

/-- Operations in the order of the text. -/
def opsA (E : Env) (callF : CallF) (ops : Array Oper) : List Oper → St → M St
  | [], S => pure S
  | o :: r, S => do
    let (w, S) ← wantedA ops o S
    if w then do
      let d ← opA E callF o S.heap.length S.heap.length S
      opsA E callF ops r (didPut o d S)
    else opsA E callF ops r { S with tmps := putT S.tmps o.dst (.tuple []) }

/-- What an operation has read and turned. -/
structure Foot where
  idx : Nat
  rd : List Nat
  wr : List Nat

def Foot.apart (a b : Foot) : Bool := disjoint a.wr b.rd && disjoint a.wr b.wr && disjoint b.wr a.rd

/-- What is turned lies there already, or is new: the operation's own, or behind all. -/
def updOk (h : Heap) (slot : Nat) : List (Nat × Blk) → Bool
  | [] => true
  | (k, _) :: r => (Nat.beq k slot || (Nat.ble h.length k || (h.at k).isSome)) && updOk h slot r

/-- Operations of a region that leaves its order open: in the order of the text, and what each has touched. -/
def drawA (E : Env) (callF : CallF) (ops : Array Oper) (base : Nat) : Nat → List Oper → St → List Foot → M (St × List Foot)
  | _, [], S, fs => pure (S, fs)
  | i, o :: r, S, fs => do
    let (w, S) ← wantedA ops o S
    if w then do
      let d ← opA E callF o (base + i) S.heap.length S
      if !(d.dfr.isEmpty && updOk S.heap (base + i) d.upd) then fail else
      let S' := didPut o d S
      if d.rd.isEmpty && d.upd.isEmpty then drawA E callF ops base (i + 1) r S' fs
      else drawA E callF ops base (i + 1) r S' (⟨i, d.rd, d.upd.map (·.1)⟩ :: fs)
    else drawA E callF ops base (i + 1) r { S with tmps := putT S.tmps o.dst (.tuple []) } fs

/-- Do those that are not ordered touch nothing in common? -/
def apartAll (before : Array Nat) : List Foot → Bool
  | [] => true
  | f :: r => r.all (fun g => f.apart g || (before.getD f.idx 0).testBit g.idx) && apartAll before r

def reserve (n : Nat) : Heap := List.replicate n none

def regionA (E : Env) (callF : CallF) (ops : Array Oper) (draw : Bool) (S : St) : M St :=
  if draw then do
    let base := S.heap.length
    let (S', fs) ← drawA E callF ops base 0 ops.toList { S with heap := S.heap ++ reserve ops.size } []
    if apartAll (Region.before ops) fs then pure S' else fail
  else opsA E callF ops ops.toList S

structure Ctx where
  E : Env
  callF : CallF
  n : Nat
  OKl : Code → St → X → St → Prop

/-- A loop: its rounds, or what is owed for it. -/
def loopA (OKl : St → X → St → Prop) (body : St → M (X × St)) : Nat → St → M (X × St)
  | 0, _ => fail
  | n + 1, S => fun t =>
    match nxt t.scr with
    | (some (.jump x S'), r) => some ((x, S'), ⟨r, OKl S x S' :: t.ob⟩)
    | (none, r) => match body S ⟨r, t.ob⟩ with
      | some ((.normal, S'), t') => loopA OKl body n S' t'
      | r => r
    | _ => none

def execA (C : Ctx) : Code → St → M (X × St)
  | .skip, S => pure (.normal, S)
  | .seq a b, S => do
    let (x, S') ← execA C a S
    match x with
    | .normal => execA C b S'
    | x => pure (x, S')
  | .cond c a b, S => do
    let t ← branch (evalO S.tmps c)
    if t then execA C a S else execA C b S
  | .block id c, S => do
    let (x, S') ← execA C c S
    match x with
    | .exit j => if j = id then pure (.normal, S') else pure (.exit j, S')
    | x => pure (x, S')
  | .loop c, S => loopA (C.OKl c) (execA C c) C.n S
  | .region _ ops draw, S => do let S' ← regionA C.E C.callF ops draw S; pure (.normal, S')
  | .exit id, S => pure (.exit id, S)
  | .ret, S => pure (.ret, S)
  | _, _ => fail

/-- What was deferred, the last first: closures without arguments, which call nothing. -/
def leaveA (C : Ctx) : List AV → Heap → M Heap
  | [], h => pure h
  | .func g vs :: r, h =>
    match C.E.fn g with
    | none => fail
    | some fi => if !Nat.ble vs.length fi.ntmps then fail else do
      let (x, S) ← execA { C with callF := fun _ _ _ => fail } fi.body { tmps := Tms.start fi.ntmps vs, heap := h, defers := [] }
      match x with
      | .exit _ => fail
      | _ => if S.defers.isEmpty && fi.results.isEmpty then leaveA C r S.heap else fail
  | _, _ => fail

def resultA (E : Env) (S : St) : List ResultVar → M (List AV)
  | [] => pure []
  | .tmp t :: r => do
    let vs ← resultA E S r
    pure (Tms.at S.tmps t :: vs)
  | .cell a t :: r => do
    let v ← loadA E S.heap t (Tms.at S.tmps a)
    let vs ← resultA E S r
    pure (v :: vs)

def one : List AV → AV
  | [v] => v
  | vs => .tuple vs

def bodyA (C : Ctx) (fi : FI) (args : List AV) (h : Heap) : M (AV × Heap) := if !Nat.ble args.length fi.ntmps then fail else do
  let (x, S) ← execA C fi.body { tmps := Tms.start fi.ntmps args, heap := h, defers := [] }
  match x with
  | .exit _ => fail
  | _ => do
    let h' ← leaveA C S.defers S.heap
    let vs ← resultA C.E { S with heap := h' } fi.results
    pure (one vs, h')

/-- Calls, so many deep. -/
def callN (OKp : Nat → List AV → Heap → AV → Heap → Prop) (OKl : Code → St → X → St → Prop) (E : Env) (n : Nat) : Nat → CallF
  | 0 => callVia OKp fun _ _ _ => fail
  | k + 1 => callVia OKp fun f args h =>
    match shortOf E f args with
    | some v => pure (v, h)
    | none => match E.fn f with
      | some fi => bodyA ⟨E, callN OKp OKl E n k, n, OKl⟩ fi args h
      | none => fail

end Go.Am
end
section
namespace Go.Am

/-- What is owed only grows. -/
def Mono {α : Type} (m : M α) : Prop := ∀ t a t', m t = some (a, t') → ∀ p ∈ t.ob, p ∈ t'.ob

section
variable {α β : Type}

theorem Mono.pure (a : α) : Mono (pure a : M α) := by
  intro t b t' h p hp
  change some (a, t) = some (b, t') at h
  simp only [Option.some.injEq, Prod.mk.injEq] at h
  rw [← h.2]; exact hp
theorem Mono.ret (a : α) : Mono (M.ret a : M α) := Mono.pure a
theorem Mono.fail : Mono (Am.fail : M α) := by
  intro t b t' h; cases h
theorem Mono.lift (o : Option α) : Mono (Am.lift o : M α) := by
  cases o with
  | none => exact Mono.fail
  | some a => exact Mono.ret a
theorem Mono.bind {m : M α} {f : α → M β} (hm : Mono m) (hf : ∀ a, Mono (f a)) : Mono (m >>= f) := by
  intro t b t'' h p hp
  change M.bind m f t = _ at h
  unfold M.bind at h
  rcases h1 : m t with _ | ⟨a, t'⟩ <;> rw [h1] at h
  · cases h
  · exact hf a _ _ _ h _ (hm _ _ _ h1 _ hp)
theorem Mono.check (b : Bool) : Mono (Am.check b) := by
  intro t a t' h p hp
  unfold Am.check at h
  split at h
  · split at h
    · simp only [Option.some.injEq, Prod.mk.injEq] at h
      obtain ⟨-, rfl⟩ := h; exact hp
    · cases h
  · simp only [Option.some.injEq, Prod.mk.injEq] at h
    obtain ⟨-, rfl⟩ := h; exact List.mem_cons_of_mem _ hp
  · cases h
theorem Mono.decideB (b : Bool) : Mono (Am.decideB b) := by
  intro t a t' h p hp
  unfold Am.decideB at h
  split at h
  · simp only [Option.some.injEq, Prod.mk.injEq] at h
    obtain ⟨-, rfl⟩ := h; exact hp
  · simp only [Option.some.injEq, Prod.mk.injEq] at h
    obtain ⟨-, rfl⟩ := h; exact List.mem_cons_of_mem _ hp
  · cases h
theorem Mono.readCell (x : Option AV) : Mono (Am.readCell x) := by
  intro t a t' h p hp
  unfold Am.readCell at h
  split at h
  · split at h
    · simp only [Option.some.injEq, Prod.mk.injEq] at h
      obtain ⟨-, rfl⟩ := h; exact hp
    · cases h
  · simp only [Option.some.injEq, Prod.mk.injEq] at h
    obtain ⟨-, rfl⟩ := h; exact List.mem_cons_of_mem _ hp
  · cases h
theorem Mono.hintI (x : Int) : Mono (Am.hintI x) := by
  intro t a t' h p hp
  unfold Am.hintI at h
  split at h
  · simp only [Option.some.injEq, Prod.mk.injEq] at h
    obtain ⟨-, rfl⟩ := h; exact hp
  · simp only [Option.some.injEq, Prod.mk.injEq] at h
    obtain ⟨-, rfl⟩ := h; exact List.mem_cons_of_mem _ hp
  · cases h
theorem Mono.readPair (x : Nat × Nat) : Mono (Am.readPair x) := by
  intro t a t' h p hp
  unfold Am.readPair at h
  split at h
  · simp only [Option.some.injEq, Prod.mk.injEq] at h
    obtain ⟨-, rfl⟩ := h; exact hp
  · simp only [Option.some.injEq, Prod.mk.injEq] at h
    obtain ⟨-, rfl⟩ := h; exact List.mem_cons_of_mem _ hp
  · cases h
theorem Mono.readCells (x : Option (List AV)) : Mono (Am.readCells x) := by
  intro t a t' h p hp
  unfold Am.readCells at h
  split at h
  · split at h
    · simp only [Option.some.injEq, Prod.mk.injEq] at h
      obtain ⟨-, rfl⟩ := h; exact hp
    · cases h
  · simp only [Option.some.injEq, Prod.mk.injEq] at h
    obtain ⟨-, rfl⟩ := h; exact List.mem_cons_of_mem _ hp
  · cases h
theorem Mono.readNats (x : Option (List Nat)) : Mono (Am.readNats x) := by
  intro t a t' h p hp
  unfold Am.readNats at h
  split at h
  · split at h
    · simp only [Option.some.injEq, Prod.mk.injEq] at h
      obtain ⟨-, rfl⟩ := h; exact hp
    · cases h
  · simp only [Option.some.injEq, Prod.mk.injEq] at h
    obtain ⟨-, rfl⟩ := h; exact List.mem_cons_of_mem _ hp
  · cases h
theorem Mono.ite {c : Prop} [Decidable c] {m m' : M α} (h : Mono m) (h' : Mono m') : Mono (if c then m else m') := by
  split
  · exact h
  · exact h'
theorem Mono.branch (v : AV) : Mono (Am.branch v) := by
  unfold Am.branch
  split
  · exact .decideB _
  · exact .fail
end

end Go.Am
end
section
namespace Go.Am
section
variable (E : Env) (h : Heap)

theorem mono_loadA (t : Nat) (p : AV) : Mono (loadA E h t p) := by unfold loadA; repeat (first | assumption | exact Mono.fail | exact Mono.pure _ | exact Mono.ret _ | exact Mono.lift _ | exact Mono.check _ | exact Mono.decideB _ | exact Mono.readCell _ | exact Mono.readCells _ | exact Mono.readNats _ | exact Mono.branch _ | refine Mono.bind ?_ (fun _ => ?_) | refine Mono.ite ?_ ?_ | split)
theorem mono_storeA (t : Nat) (p v : AV) : Mono (storeA E h t p v) := by unfold storeA; repeat (first | assumption | exact Mono.fail | exact Mono.pure _ | exact Mono.ret _ | exact Mono.lift _ | exact Mono.check _ | exact Mono.decideB _ | exact Mono.readCell _ | exact Mono.readCells _ | exact Mono.readNats _ | exact Mono.branch _ | refine Mono.bind ?_ (fun _ => ?_) | refine Mono.ite ?_ ?_ | split)
theorem mono_makeSliceA (t slot : Nat) (l c : AV) : Mono (makeSliceA E t slot l c) := by unfold makeSliceA; repeat (first | assumption | exact Mono.fail | exact Mono.pure _ | exact Mono.ret _ | exact Mono.lift _ | exact Mono.check _ | exact Mono.decideB _ | exact Mono.readCell _ | exact Mono.readCells _ | exact Mono.readNats _ | exact Mono.branch _ | refine Mono.bind ?_ (fun _ => ?_) | refine Mono.ite ?_ ?_ | split)
theorem mono_appendA (t slot : Nat) (s x : AV) : Mono (appendA E h t slot s x) := by unfold appendA; repeat (first | assumption | exact Mono.fail | exact Mono.pure _ | exact Mono.ret _ | exact Mono.lift _ | exact Mono.check _ | exact Mono.decideB _ | exact Mono.readCell _ | exact Mono.readCells _ | exact Mono.readNats _ | exact Mono.branch _ | refine Mono.bind ?_ (fun _ => ?_) | refine Mono.ite ?_ ?_ | split)
theorem mono_copyA (t : Nat) (d s : AV) : Mono (copyA E h t d s) := by unfold copyA; repeat (first | assumption | exact Mono.fail | exact Mono.pure _ | exact Mono.ret _ | exact Mono.lift _ | exact Mono.check _ | exact Mono.decideB _ | exact Mono.readCell _ | exact Mono.readCells _ | exact Mono.readNats _ | exact Mono.branch _ | refine Mono.bind ?_ (fun _ => ?_) | refine Mono.ite ?_ ?_ | split)
theorem mono_unsafeStringA (t : Nat) (p n : AV) : Mono (unsafeStringA E h t p n) := by unfold unsafeStringA; repeat (first | assumption | exact Mono.fail | exact Mono.pure _ | exact Mono.ret _ | exact Mono.lift _ | exact Mono.check _ | exact Mono.decideB _ | exact Mono.readCell _ | exact Mono.readCells _ | exact Mono.readNats _ | exact Mono.branch _ | refine Mono.bind ?_ (fun _ => ?_) | refine Mono.ite ?_ ?_ | split)
theorem mono_nextA (p : AV) : Mono (nextA h p) := by unfold nextA; repeat (first | assumption | exact Mono.fail | exact Mono.pure _ | exact Mono.ret _ | exact Mono.lift _ | exact Mono.check _ | exact Mono.decideB _ | exact Mono.readCell _ | exact Mono.readCells _ | exact Mono.readNats _ | exact Mono.readPair _ | exact Mono.branch _ | refine Mono.bind ?_ (fun _ => ?_) | refine Mono.ite ?_ ?_ | split)
theorem mono_intOp (op : BinOp) (k : IntKind) (x y : Int) : Mono (intOp op k x y) := by unfold intOp; repeat (first | assumption | exact Mono.fail | exact Mono.pure _ | exact Mono.ret _ | exact Mono.lift _ | exact Mono.check _ | exact Mono.decideB _ | exact Mono.readCell _ | exact Mono.readCells _ | exact Mono.readNats _ | exact Mono.branch _ | refine Mono.bind ?_ (fun _ => ?_) | refine Mono.ite ?_ ?_ | split)
theorem mono_strOp (op : BinOp) (x y : List Nat) : Mono (strOp op x y) := by unfold strOp; repeat (first | assumption | exact Mono.fail | exact Mono.pure _ | exact Mono.ret _ | exact Mono.lift _ | exact Mono.check _ | exact Mono.decideB _ | exact Mono.readCell _ | exact Mono.readCells _ | exact Mono.readNats _ | exact Mono.branch _ | refine Mono.bind ?_ (fun _ => ?_) | refine Mono.ite ?_ ?_ | split)
theorem mono_binOpA (op : BinOp) (t : Nat) (x y : Operand) (a b : AV) : Mono (binOpA E h op t x y a b) := by
  unfold binOpA; repeat (first | exact mono_intOp _ _ _ _ | exact mono_strOp _ _ _ | assumption | exact Mono.fail | exact Mono.pure _ | exact Mono.ret _ | exact Mono.lift _ | exact Mono.check _ | exact Mono.decideB _ | exact Mono.readCell _ | exact Mono.readCells _ | exact Mono.readNats _ | exact Mono.branch _ | refine Mono.bind ?_ (fun _ => ?_) | refine Mono.ite ?_ ?_ | split)
theorem mono_indexAddrA (t : Nat) (x i : AV) : Mono (indexAddrA E t x i) := by unfold indexAddrA; repeat (first | assumption | exact Mono.fail | exact Mono.pure _ | exact Mono.ret _ | exact Mono.lift _ | exact Mono.check _ | exact Mono.decideB _ | exact Mono.readCell _ | exact Mono.readCells _ | exact Mono.readNats _ | exact Mono.branch _ | refine Mono.bind ?_ (fun _ => ?_) | refine Mono.ite ?_ ?_ | split)
theorem mono_indexA (t : Nat) (x i : AV) : Mono (indexA E t x i) := by unfold indexA; repeat (first | assumption | exact Mono.fail | exact Mono.pure _ | exact Mono.ret _ | exact Mono.lift _ | exact Mono.check _ | exact Mono.decideB _ | exact Mono.readCell _ | exact Mono.readCells _ | exact Mono.readNats _ | exact Mono.branch _ | refine Mono.bind ?_ (fun _ => ?_) | refine Mono.ite ?_ ?_ | split)
theorem mono_sliceA (t : Nat) (x : AV) (lo hi mx : Option AV) : Mono (sliceA E h t x lo hi mx) := by unfold sliceA; repeat (first | assumption | exact Mono.fail | exact Mono.pure _ | exact Mono.ret _ | exact Mono.lift _ | exact Mono.check _ | exact Mono.decideB _ | exact Mono.readCell _ | exact Mono.readCells _ | exact Mono.readNats _ | exact Mono.branch _ | refine Mono.bind ?_ (fun _ => ?_) | refine Mono.ite ?_ ?_ | split)
theorem mono_convertA (s d : Nat) (x : AV) : Mono (convertA E h s d x) := by unfold convertA; repeat (first | assumption | exact Mono.fail | exact Mono.pure _ | exact Mono.ret _ | exact Mono.lift _ | exact Mono.check _ | exact Mono.decideB _ | exact Mono.readCell _ | exact Mono.readCells _ | exact Mono.readNats _ | exact Mono.branch _ | refine Mono.bind ?_ (fun _ => ?_) | refine Mono.ite ?_ ?_ | split)
theorem mono_primA (p : Prim) (slot : Nat) (args : List AV) : Mono (primA E p slot args) := by unfold primA out; repeat (first | assumption | exact Mono.fail | exact Mono.pure _ | exact Mono.ret _ | exact Mono.lift _ | exact Mono.check _ | exact Mono.decideB _ | exact Mono.readCell _ | exact Mono.readCells _ | exact Mono.readNats _ | exact Mono.hintI _ | exact Mono.branch _ | refine Mono.bind ?_ (fun _ => ?_) | refine Mono.ite ?_ ?_ | split)

/-- Calls: what is owed only grows. -/
def MonoC (callF : CallF) : Prop := ∀ f args h, Mono (callF f args h)

variable {callF : CallF} (hc : MonoC callF)
include hc

theorem mono_doCall (f : Nat) (args : List AV) (base : Nat) : Mono (doCall E callF f args h base) := by
  unfold doCall
  dsimp only
  repeat (first | exact hc _ _ _ | assumption | exact Mono.fail | exact Mono.pure _ | exact Mono.ret _ | exact Mono.lift _ | exact Mono.check _ | exact Mono.decideB _ | exact Mono.readCell _ | exact Mono.readCells _ | exact Mono.readNats _ | exact Mono.branch _ | refine Mono.bind ?_ (fun _ => ?_) | refine Mono.ite ?_ ?_ | split)

omit hc in
theorem mono_builtinA (slot : Nat) (b : Builtin) (args : List AV) (ts : List Nat) : Mono (builtinA E h slot b args ts) := by
  unfold builtinA plainly turning
  repeat (first | apply mono_appendA | apply mono_copyA | apply mono_unsafeStringA | assumption | exact Mono.fail | exact Mono.pure _ | exact Mono.ret _ | exact Mono.lift _ | exact Mono.check _ | exact Mono.decideB _ | exact Mono.readCell _ | exact Mono.readCells _ | exact Mono.readNats _ | exact Mono.branch _ | refine Mono.bind ?_ (fun _ => ?_) | refine Mono.ite ?_ ?_ | split)

theorem mono_userA (g : Nat) (args : List AV) (base : Nat) : Mono (userA E callF g args h base) := by
  unfold userA
  split
  · exact .fail
  · exact .bind (mono_doCall E h hc _ _ _) fun _ => .pure _

theorem mono_callA (c : Call) (slot base : Nat) (S : St) : Mono (callA E callF c slot base S) := by
  unfold callA turning
  repeat (first | apply mono_builtinA | apply mono_primA | apply mono_userA E _ hc | assumption | exact Mono.fail | exact Mono.pure _ | exact Mono.ret _ | exact Mono.lift _ | exact Mono.check _ | exact Mono.decideB _ | exact Mono.readCell _ | exact Mono.readCells _ | exact Mono.readNats _ | exact Mono.branch _ | refine Mono.bind ?_ (fun _ => ?_) | refine Mono.ite ?_ ?_ | split)

omit hc in
theorem mono_deferA (c : Call) (S : St) : Mono (deferA c S) := by unfold deferA; repeat (first | assumption | exact Mono.fail | exact Mono.pure _ | exact Mono.ret _ | exact Mono.lift _ | exact Mono.check _ | exact Mono.decideB _ | exact Mono.readCell _ | exact Mono.readCells _ | exact Mono.readNats _ | exact Mono.branch _ | refine Mono.bind ?_ (fun _ => ?_) | refine Mono.ite ?_ ?_ | split)
omit hc in
theorem mono_convA (slot s d : Nat) (x : AV) : Mono (convA E h slot s d x) := by
  unfold convA plainly turning reading; repeat (first | apply mono_convertA | assumption | exact Mono.fail | exact Mono.pure _ | exact Mono.ret _ | exact Mono.lift _ | exact Mono.check _ | exact Mono.decideB _ | exact Mono.readCell _ | exact Mono.readCells _ | exact Mono.readNats _ | exact Mono.branch _ | refine Mono.bind ?_ (fun _ => ?_) | refine Mono.ite ?_ ?_ | split)
omit hc in
theorem mono_small (t slot i : Nat) (x a b : AV) (f : Fn) (vs : List AV) : Mono (nilCheckA x) ∧ Mono (makeFuncA f i vs) ∧ Mono (rangeA E t slot x) ∧ Mono (ifaceA E t x) ∧ Mono (allocA E t slot) ∧
    Mono (boxA t slot x) ∧ Mono (pickA x a b) := by
  refine ⟨?_, ?_, ?_, ?_, ?_, ?_, ?_⟩
  · unfold nilCheckA; repeat (first | assumption | exact Mono.fail | exact Mono.pure _ | exact Mono.ret _ | exact Mono.lift _ | exact Mono.check _ | exact Mono.decideB _ | exact Mono.readCell _ | exact Mono.readCells _ | exact Mono.readNats _ | exact Mono.branch _ | refine Mono.bind ?_ (fun _ => ?_) | refine Mono.ite ?_ ?_ | split)
  · unfold makeFuncA; repeat (first | assumption | exact Mono.fail | exact Mono.pure _ | exact Mono.ret _ | exact Mono.lift _ | exact Mono.check _ | exact Mono.decideB _ | exact Mono.readCell _ | exact Mono.readCells _ | exact Mono.readNats _ | exact Mono.branch _ | refine Mono.bind ?_ (fun _ => ?_) | refine Mono.ite ?_ ?_ | split)
  · unfold rangeA; repeat (first | assumption | exact Mono.fail | exact Mono.pure _ | exact Mono.ret _ | exact Mono.lift _ | exact Mono.check _ | exact Mono.decideB _ | exact Mono.readCell _ | exact Mono.readCells _ | exact Mono.readNats _ | exact Mono.branch _ | refine Mono.bind ?_ (fun _ => ?_) | refine Mono.ite ?_ ?_ | split)
  · unfold ifaceA; repeat (first | assumption | exact Mono.fail | exact Mono.pure _ | exact Mono.ret _ | exact Mono.lift _ | exact Mono.check _ | exact Mono.decideB _ | exact Mono.readCell _ | exact Mono.readCells _ | exact Mono.readNats _ | exact Mono.branch _ | refine Mono.bind ?_ (fun _ => ?_) | refine Mono.ite ?_ ?_ | split)
  · unfold allocA; repeat (first | assumption | exact Mono.fail | exact Mono.pure _ | exact Mono.ret _ | exact Mono.lift _ | exact Mono.check _ | exact Mono.decideB _ | exact Mono.readCell _ | exact Mono.readCells _ | exact Mono.readNats _ | exact Mono.branch _ | refine Mono.bind ?_ (fun _ => ?_) | refine Mono.ite ?_ ?_ | split)
  · unfold boxA; repeat (first | assumption | exact Mono.fail | exact Mono.pure _ | exact Mono.ret _ | exact Mono.lift _ | exact Mono.check _ | exact Mono.decideB _ | exact Mono.readCell _ | exact Mono.readCells _ | exact Mono.readNats _ | exact Mono.branch _ | refine Mono.bind ?_ (fun _ => ?_) | refine Mono.ite ?_ ?_ | split)
  · unfold pickA; repeat (first | assumption | exact Mono.fail | exact Mono.pure _ | exact Mono.ret _ | exact Mono.lift _ | exact Mono.check _ | exact Mono.decideB _ | exact Mono.readCell _ | exact Mono.readCells _ | exact Mono.readNats _ | exact Mono.branch _ | refine Mono.bind ?_ (fun _ => ?_) | refine Mono.ite ?_ ?_ | split)

omit hc in
theorem mono_plainly {m : M AV} (hm : Mono m) : Mono (plainly m) := .bind hm fun _ => .pure _
omit hc in
theorem mono_reading {rd : List Nat} {m : M AV} (hm : Mono m) : Mono (reading rd m) := .bind hm fun _ => .pure _
omit hc in
theorem mono_turning {rd : List Nat} {m : M Out} (hm : Mono m) : Mono (turning rd m) := .bind hm fun _ => .pure _

theorem mono_opA (o : Oper) (slot base : Nat) (S : St) : Mono (opA E callF o slot base S) := by
  have sm := fun t i x a b f vs => mono_small E t slot i x a b f vs
  unfold opA
  split
  · exact mono_plainly (.pure _)
  · exact mono_plainly (.pure _)
  · exact mono_plainly (sm 0 0 _ _ _ (.method "") []).2.2.2.2.2.2
  · exact mono_turning (sm _ 0 .junk .junk .junk (.method "") []).2.2.2.2.1
  · exact mono_turning (sm _ 0 _ .junk .junk (.method "") []).2.2.2.2.2.1
  · exact mono_plainly (.lift _)
  · exact mono_turning (.lift _)
  · exact mono_reading (by apply mono_loadA)
  · exact mono_turning (by apply mono_storeA)
  · exact mono_plainly (sm 0 0 _ .junk .junk (.method "") []).1
  · exact mono_reading (by apply mono_binOpA)
  · exact mono_plainly (.lift _)
  · apply mono_convA
  · exact mono_plainly (sm _ 0 _ .junk .junk (.method "") []).2.2.2.1
  · exact mono_plainly (sm 0 _ .junk .junk .junk _ _).2.1
  · exact mono_turning (by apply mono_makeSliceA)
  · exact mono_reading (by apply mono_sliceA)
  · exact mono_plainly (.lift _)
  · exact mono_plainly (.lift _)
  · exact mono_plainly (by apply mono_indexAddrA)
  · exact mono_plainly (by apply mono_indexA)
  · exact mono_turning (sm _ 0 _ .junk .junk (.method "") []).2.2.1
  · split
    · exact mono_turning (by apply mono_nextA)
    · exact .fail
  · exact mono_plainly (.lift _)
  · exact mono_plainly (.lift _)
  · apply mono_deferA
  · apply mono_callA E hc
  · exact .fail

omit hc in
theorem mono_wantedA (ops : Array Oper) (o : Oper) (S : St) : Mono (wantedA ops o S) := by unfold wantedA; repeat (first | assumption | exact Mono.fail | exact Mono.pure _ | exact Mono.ret _ | exact Mono.lift _ | exact Mono.check _ | exact Mono.decideB _ | exact Mono.readCell _ | exact Mono.readCells _ | exact Mono.readNats _ | exact Mono.branch _ | refine Mono.bind ?_ (fun _ => ?_) | refine Mono.ite ?_ ?_ | split)

theorem mono_opsA (ops : Array Oper) : ∀ (l : List Oper) (S : St), Mono (opsA E callF ops l S)
  | [], S => Mono.pure S
  | o :: r, S => by
    unfold opsA
    refine .bind (mono_wantedA ops o S) fun x => ?_
    obtain ⟨w, S'⟩ := x
    dsimp only
    split
    · exact .bind (mono_opA E hc o _ _ S') fun d => mono_opsA ops r _
    · exact mono_opsA ops r _

theorem mono_drawA (ops : Array Oper) (base : Nat) : ∀ (l : List Oper) (i : Nat) (S : St) (fs : List Foot), Mono (drawA E callF ops base i l S fs)
  | [], _, S, fs => Mono.pure (S, fs)
  | o :: r, i, S, fs => by
    unfold drawA
    refine .bind (mono_wantedA ops o S) fun x => ?_
    obtain ⟨w, S'⟩ := x
    dsimp only
    split
    · refine .bind (mono_opA E hc o _ _ S') fun d => ?_
      split
      · exact .fail
      · split
        · exact mono_drawA ops base r _ _ _
        · exact mono_drawA ops base r _ _ _
    · exact mono_drawA ops base r _ _ _

theorem mono_regionA (ops : Array Oper) (draw : Bool) (S : St) : Mono (regionA E callF ops draw S) := by
  unfold regionA
  dsimp only
  split
  · refine .bind (mono_drawA E hc ops _ _ _ _ _) fun x => ?_
    obtain ⟨S', fs⟩ := x
    dsimp only
    repeat (first | assumption | exact Mono.fail | exact Mono.pure _ | exact Mono.ret _ | exact Mono.lift _ | exact Mono.check _ | exact Mono.decideB _ | exact Mono.readCell _ | exact Mono.readCells _ | exact Mono.readNats _ | exact Mono.branch _ | refine Mono.bind ?_ (fun _ => ?_) | refine Mono.ite ?_ ?_ | split)
  · exact mono_opsA E hc ops _ _

end

theorem mono_loopA {OKl : St → X → St → Prop} {body : St → M (X × St)} (hb : ∀ S, Mono (body S)) : ∀ (n : Nat) (S : St), Mono (loopA OKl body n S)
  | 0, _ => .fail
  | n + 1, S => by
    intro t a t' h p hp
    unfold loopA at h
    split at h
    · simp only [Option.some.injEq, Prod.mk.injEq] at h
      obtain ⟨-, rfl⟩ := h
      exact List.mem_cons_of_mem _ hp
    · split at h
      · rename_i S' t1 h1
        exact mono_loopA hb n S' _ _ _ h _ (hb S _ _ _ h1 _ hp)
      · rename_i hx
        exact hb S _ _ _ h _ hp
    · cases h

theorem mono_execA (C : Ctx) (hc : MonoC C.callF) : ∀ (c : Code) (S : St), Mono (execA C c S)
  | .skip, S => .pure _
  | .seq a b, S => by
    unfold execA
    refine .bind (mono_execA C hc a S) fun x => ?_
    obtain ⟨x, S'⟩ := x
    dsimp only
    split
    · exact mono_execA C hc b S'
    · exact .pure _
  | .cond c a b, S => by
    unfold execA
    refine .bind (.branch _) fun t => ?_
    split
    · exact mono_execA C hc a S
    · exact mono_execA C hc b S
  | .block id c, S => by
    unfold execA
    refine .bind (mono_execA C hc c S) fun x => ?_
    obtain ⟨x, S'⟩ := x
    dsimp only
    repeat (first | assumption | exact Mono.fail | exact Mono.pure _ | exact Mono.ret _ | exact Mono.lift _ | exact Mono.check _ | exact Mono.decideB _ | exact Mono.readCell _ | exact Mono.readCells _ | exact Mono.readNats _ | exact Mono.branch _ | refine Mono.bind ?_ (fun _ => ?_) | refine Mono.ite ?_ ?_ | split)
  | .loop c, S => by
    unfold execA
    exact mono_loopA (fun S => mono_execA C hc c S) _ _
  | .region _ ops draw, S => by
    unfold execA
    exact .bind (mono_regionA C.E hc ops draw S) fun _ => .pure _
  | .exit id, S => .pure _
  | .ret, S => .pure _
  | .goto _, S => .fail
  | .label _, S => .fail
  | .rangeFunc .., S => .fail
  | .scope .., S => .fail
  | .refuse _, S => .fail

theorem mono_leaveA (C : Ctx) : ∀ (l : List AV) (h : Heap), Mono (leaveA C l h)
  | [], h => .pure h
  | a :: r, h => by
    unfold leaveA
    split
    · exact .pure _
    · split
      · exact .fail
      split
      · exact .fail
      · refine .bind (mono_execA _ (fun _ _ _ => .fail) _ _) fun x => ?_
        obtain ⟨x, S'⟩ := x
        dsimp only
        rename_i heq _ _ _ _
        simp only [List.cons.injEq] at heq
        obtain ⟨-, rfl⟩ := heq
        repeat (first | exact mono_leaveA C r _ | assumption | exact Mono.fail | exact Mono.pure _ | exact Mono.ret _ | exact Mono.lift _ | exact Mono.check _ | exact Mono.decideB _ | exact Mono.readCell _ | exact Mono.readCells _ | exact Mono.readNats _ | exact Mono.branch _ | refine Mono.bind ?_ (fun _ => ?_) | refine Mono.ite ?_ ?_ | split)
    · exact .fail

theorem mono_resultA (E : Env) (S : St) : ∀ l : List ResultVar, Mono (resultA E S l)
  | [] => .pure _
  | .tmp t :: r => by
    unfold resultA
    exact .bind (mono_resultA E S r) fun _ => .pure _
  | .cell a t :: r => by
    unfold resultA
    exact .bind (by apply mono_loadA) fun _ => .bind (mono_resultA E S r) fun _ => .pure _

theorem mono_bodyA (C : Ctx) (hc : MonoC C.callF) (fi : FI) (args : List AV) (h : Heap) : Mono (bodyA C fi args h) := by
  unfold bodyA
  split
  · exact .fail
  refine .bind (mono_execA C hc _ _) fun x => ?_
  obtain ⟨x, S⟩ := x
  dsimp only
  split
  · exact .fail
  · exact .bind (mono_leaveA C _ _) fun _ => .bind (mono_resultA _ _ _) fun _ => .pure _

theorem mono_callVia {OKp : Nat → List AV → Heap → AV → Heap → Prop} {callF : CallF} (hc : MonoC callF) : MonoC (callVia OKp callF) := by
  intro f args h t a t' hh p hp
  unfold callVia at hh
  split at hh
  · exact hc f args h _ _ _ hh _ hp
  · simp only [Option.some.injEq, Prod.mk.injEq] at hh
    obtain ⟨-, rfl⟩ := hh
    exact List.mem_cons_of_mem _ hp
  · cases hh

theorem mono_callN (OKp : Nat → List AV → Heap → AV → Heap → Prop) (OKl : Code → St → X → St → Prop) (E : Env) (n : Nat) : ∀ k, MonoC (callN OKp OKl E n k)
  | 0 => mono_callVia fun _ _ _ => .fail
  | k + 1 => mono_callVia fun f args h => by
    split
    · exact .pure _
    split
    · exact mono_bodyA _ (mono_callN OKp OKl E n k) _ _ _
    · exact .fail

end Go.Am
end
section
namespace Go.Am

theorem getL_eq {α : Type} : ∀ (l : List α) (n : Nat), getL l n = l[n]?
  | [], _ => by simp [getL_nil]
  | _ :: _, 0 => by simp [getL_zero]
  | _ :: xs, n + 1 => by simp [getL_succ, getL_eq xs n]

theorem setL_eq {α : Type} : ∀ (l : List α) (n : Nat) (v : α), setL l n v = l.set n v
  | [], _, _ => by simp [setL_nil]
  | _ :: _, 0, _ => by simp [setL_zero]
  | _ :: xs, n + 1, v => by simp [setL_succ, setL_eq xs n v]

theorem dropL_eq {α : Type} : ∀ (l : List α) (n : Nat), dropL l n = l.drop n
  | _, 0 => by simp [dropL_zero]
  | [], _ + 1 => by simp [dropL_nil]
  | _ :: xs, n + 1 => by simp [dropL_succ, dropL_eq xs n]

theorem takeL_eq {α : Type} : ∀ (l : List α) (n : Nat), takeL l n = if n ≤ l.length then some (l.take n) else none
  | _, 0 => by simp [takeL]
  | [], _ + 1 => by simp [takeL]
  | x :: xs, n + 1 => by
    simp only [takeL, takeL_eq xs n, List.length_cons, Nat.add_le_add_iff_right, List.take_succ_cons]
    split <;> simp

theorem takeL_some {α : Type} {l : List α} {n : Nat} {r : List α} (h : takeL l n = some r) : n ≤ l.length ∧ r = l.take n := by
  rw [takeL_eq] at h
  split at h
  · exact ⟨‹_›, by simpa using h.symm⟩
  · cases h

theorem cellsAt_some {α : Type} {l : List α} {off n : Nat} {r : List α} (h : cellsAt l off n = some r) :
    r.length = n ∧ ∀ i x, r[i]? = some x → l[off + i]? = some x := by
  obtain ⟨h1, h2⟩ := takeL_some h
  rw [dropL_eq] at h1 h2
  refine ⟨by rw [h2, List.length_take]; omega, fun i x hx => ?_⟩
  rw [h2, List.getElem?_take] at hx
  split at hx
  · rwa [List.getElem?_drop] at hx
  · cases hx

theorem cellsAt_get {α : Type} {l : List α} {off n : Nat} {r : List α} (h : cellsAt l off n = some r) {i : Nat} (hi : i < n) : r[i]? = l[off + i]? := by
  obtain ⟨h1, h2⟩ := takeL_some h
  rw [dropL_eq] at h1 h2
  rw [h2, List.getElem?_take, if_pos hi, List.getElem?_drop]

theorem setsL_length {α : Type} : ∀ (vs cells : List α) (off : Nat), (setsL cells off vs).length = cells.length
  | [], _, _ => rfl
  | v :: vs, cells, off => by simp [setsL, setsL_length vs, setL_eq]

theorem setsL_get {α : Type} : ∀ (vs cells : List α) (off i : Nat), off + vs.length ≤ cells.length →
    (setsL cells off vs)[i]? = if off ≤ i ∧ i < off + vs.length then vs[i - off]? else cells[i]?
  | [], cells, off, i, _ => by
    simp only [setsL, List.length_nil, Nat.add_zero]
    rw [if_neg (by omega)]
  | v :: vs, cells, off, i, h => by
    simp only [List.length_cons] at h
    simp only [setsL]
    rw [setsL_get vs _ _ _ (by simp [setL_eq]; omega)]
    simp only [List.length_cons]
    by_cases h1 : off + 1 ≤ i ∧ i < off + 1 + vs.length
    · rw [if_pos h1, if_pos (by omega)]
      obtain ⟨k, hk⟩ : ∃ k, i - off = k + 1 := ⟨i - off - 1, by omega⟩
      rw [hk, List.getElem?_cons_succ]
      congr 1
      omega
    · rw [if_neg h1, setL_eq]
      by_cases h2 : i = off
      · subst h2
        rw [if_pos (by omega), Nat.sub_self, List.getElem?_cons_zero, List.getElem?_set_self (by omega)]
      · rw [if_neg (by omega), List.getElem?_set_ne (by omega)]

theorem Heap.at_eq (h : Heap) (b : Nat) : h.at b = (h[b]?).join := by
  unfold Heap.at
  rw [getL_eq]
  cases h[b]? with
  | none => rfl
  | some x => cases x <;> rfl

theorem put_get : ∀ (h : Heap) (i j : Nat) (b : Blk), ((h.put i b)[j]?).join = if j = i then some b else (h[j]?).join
  | [], 0, j, b => by
    cases j <;> simp [Heap.put]
  | [], n + 1, j, b => by
    cases j with
    | zero => simp [Heap.put]
    | succ j => simp [Heap.put, put_get [] n j b]
  | x :: h, 0, j, b => by cases j <;> simp [Heap.put]
  | x :: h, n + 1, j, b => by
    cases j with
    | zero => simp [Heap.put]
    | succ j => simp [Heap.put, put_get h n j b]

theorem Heap.at_put (h : Heap) (i j : Nat) (b : Blk) : (h.put i b).at j = if j = i then some b else h.at j := by
  rw [Heap.at_eq, put_get, Heap.at_eq]

theorem put_length : ∀ (h : Heap) (i : Nat) (b : Blk), (h.put i b).length = max h.length (i + 1)
  | [], 0, b => by simp [Heap.put]
  | [], n + 1, b => by simp [Heap.put, put_length [] n b]
  | x :: h, 0, b => by simp [Heap.put]
  | x :: h, n + 1, b => by simp [Heap.put, put_length h n b]

/-- What lies at a place behind some turns: the last one's, if there is one. -/
def lastOf (j : Nat) : List (Nat × Blk) → Option Blk
  | [] => none
  | (i, b) :: r => match lastOf j r with
    | some c => some c
    | none => if j = i then some b else none

theorem Heap.at_puts : ∀ (u : List (Nat × Blk)) (h : Heap) (j : Nat), (h.puts u).at j = (lastOf j u).or (h.at j)
  | [], h, j => by simp [Heap.puts, lastOf]
  | (i, b) :: r, h, j => by
    simp only [Heap.puts, lastOf]
    rw [Heap.at_puts r, Heap.at_put]
    cases lastOf j r with
    | some c => simp
    | none => by_cases hj : j = i <;> simp [hj]

theorem Heap.at_lt {h : Heap} {b : Nat} {x : Blk} (hx : h.at b = some x) : b < h.length := by
  rw [Heap.at_eq] at hx
  rcases Nat.lt_or_ge b h.length with hb | hb
  · exact hb
  · simp [List.getElem?_eq_none hb] at hx

theorem eqNats_iff : ∀ (a b : List Nat), eqNats a b = true ↔ a = b
  | [], [] => by simp [eqNats]
  | [], _ :: _ => by simp [eqNats]
  | _ :: _, [] => by simp [eqNats]
  | a :: x, b :: y => by simp [eqNats, eqNats_iff x y]

theorem memB_iff : ∀ (b : Nat) (l : List Nat), memB b l = true ↔ b ∈ l
  | _, [] => by simp [memB]
  | b, a :: r => by
    simp only [memB, Bool.or_eq_true, List.mem_cons, memB_iff b r]
    constructor <;> rintro (h | h) <;> simp_all

theorem disjoint_iff : ∀ (a b : List Nat), disjoint a b = true ↔ ∀ x ∈ a, x ∉ b
  | [], _ => by simp [disjoint]
  | a :: r, bs => by
    simp only [disjoint, Bool.and_eq_true, Bool.not_eq_true', List.mem_cons, forall_eq_or_imp, disjoint_iff r bs]
    rw [← Bool.not_eq_true, memB_iff]

/-! ## Temporaries -/

theorem nbeq_true {a b : Nat} (h : a = b) : Nat.beq a b = true := by subst h; exact Nat.beq_refl a
theorem nbeq_false {a b : Nat} (h : a ≠ b) : Nat.beq a b = false := by
  cases hb : Nat.beq a b
  · rfl
  · exact absurd (Nat.eq_of_beq_eq_true hb) h

theorem Tm.at_leaf (k : Nat) : Tm.at .leaf k = .tuple [] := rfl
theorem Tm.at_node (v : AV) (l r : Tm) (k : Nat) : Tm.at (.node v l r) k = if k = 1 then v else if k % 2 = 0 then l.at (k / 2) else r.at (k / 2) := by
  show Bool.rec (motive := fun _ => AV) (Bool.rec (motive := fun _ => AV) (r.at (k / 2)) (l.at (k / 2)) (Nat.beq (k % 2) 0)) v (Nat.beq k 1) = _
  by_cases h : k = 1
  · rw [nbeq_true h, if_pos h]
  · have h1 : Nat.beq k 1 = false := nbeq_false h
    rw [h1, if_neg h]
    by_cases h2 : k % 2 = 0
    · rw [nbeq_true h2, if_pos h2]
    · have h3 : Nat.beq (k % 2) 0 = false := nbeq_false h2
      rw [h3, if_neg h2]
theorem Tm.set_leaf (x : AV) (k : Nat) : Tm.set x .leaf k = .leaf := rfl
theorem Tm.set_node (x v : AV) (l r : Tm) (k : Nat) : Tm.set x (.node v l r) k = if k = 1 then .node x l r else if k % 2 = 0 then .node v (l.set x (k / 2)) r else .node v l (r.set x (k / 2)) := by
  show Bool.rec (motive := fun _ => Tm) (Bool.rec (motive := fun _ => Tm) (.node v l (r.set x (k / 2))) (.node v (l.set x (k / 2)) r) (Nat.beq (k % 2) 0)) (.node x l r) (Nat.beq k 1) = _
  by_cases h : k = 1
  · rw [nbeq_true h, if_pos h]
  · have h1 : Nat.beq k 1 = false := nbeq_false h
    rw [h1, if_neg h]
    by_cases h2 : k % 2 = 0
    · rw [nbeq_true h2, if_pos h2]
    · have h3 : Nat.beq (k % 2) 0 = false := nbeq_false h2
      rw [h3, if_neg h2]
theorem Tm.has_node (v : AV) (l r : Tm) (k : Nat) : Tm.has (.node v l r) k = (decide (k = 1) || if k % 2 = 0 then l.has (k / 2) else r.has (k / 2)) := by
  simp only [Tm.has]
  congr 1
  by_cases h : k = 1
  · subst h; rfl
  · have h1 : Nat.beq k 1 = false := nbeq_false h
    rw [h1]; simp [h]

theorem Tm.at_set (x : AV) : ∀ (t : Tm) (k j : Nat), (t.set x k).at j = if j = k ∧ t.has k = true then x else t.at j
  | .leaf, k, j => by simp [Tm.set_leaf, Tm.has]
  | .node v l r, k, j => by
    rw [Tm.set_node]
    by_cases hk : k = 1
    · subst hk
      simp only [if_true, Tm.at_node, Tm.has_node, decide_true, Bool.true_or, and_true]
      by_cases hj : j = 1
      · simp [hj]
      · simp [hj]
    · rw [if_neg hk]
      by_cases hk2 : k % 2 = 0
      · rw [if_pos hk2, Tm.at_node, Tm.at_node, Tm.has_node, if_pos hk2, Tm.at_set x l (k / 2) (j / 2)]
        by_cases hj : j = 1
        · have : j ≠ k := by omega
          simp [hj, Ne.symm hk]
        · rw [if_neg hj, if_neg hj]
          by_cases hj2 : j % 2 = 0
          · rw [if_pos hj2, if_pos hj2]
            have : (j / 2 = k / 2) ↔ j = k := by omega
            simp [this, hk]
          · rw [if_neg hj2, if_neg hj2]
            have : j ≠ k := by omega
            simp [this]
      · rw [if_neg hk2, Tm.at_node, Tm.at_node, Tm.has_node, if_neg hk2]
        by_cases hj : j = 1
        · have : j ≠ k := by omega
          simp [hj, Ne.symm hk]
        · rw [if_neg hj, if_neg hj]
          by_cases hj2 : j % 2 = 0
          · rw [if_pos hj2, if_pos hj2]
            have : j ≠ k := by omega
            simp [this]
          · rw [if_neg hj2, if_neg hj2, Tm.at_set x r (k / 2) (j / 2)]
            have : (j / 2 = k / 2) ↔ j = k := by omega
            simp [this, hk]

theorem Tm.has_set (x : AV) : ∀ (t : Tm) (k j : Nat), (t.set x k).has j = t.has j
  | .leaf, k, j => rfl
  | .node v l r, k, j => by
    rw [Tm.set_node]
    split
    · rw [Tm.has_node, Tm.has_node]
    · split
      · rw [Tm.has_node, Tm.has_node, Tm.has_set x l]
      · rw [Tm.has_node, Tm.has_node, Tm.has_set x r]

theorem Tm.set_same : ∀ (t : Tm) (k : Nat), t.set (t.at k) k = t
  | .leaf, _ => rfl
  | .node v l r, k => by
    rw [Tm.set_node, Tm.at_node]
    split
    · rfl
    · split
      · rw [Tm.set_same l]
      · rw [Tm.set_same r]

theorem Tm.set_comm (x y : AV) : ∀ (t : Tm) (i j : Nat), i ≠ j → (t.set x i).set y j = (t.set y j).set x i
  | .leaf, _, _, _ => rfl
  | .node v l r, i, j, hn => by
    have hl := Tm.set_comm x y l (i / 2) (j / 2)
    have hr := Tm.set_comm x y r (i / 2) (j / 2)
    by_cases hi : i = 1 <;> by_cases hj : j = 1 <;> by_cases hi2 : i % 2 = 0 <;> by_cases hj2 : j % 2 = 0 <;>
      first
        | omega
        | (simp only [Tm.set_node, hi, hj, hi2, hj2, if_true, if_false]; done)
        | (simp only [Tm.set_node, hi, hj, hi2, hj2, if_true, if_false]; rw [hl (by omega)])
        | (simp only [Tm.set_node, hi, hj, hi2, hj2, if_false]; rw [hr (by omega)])

theorem Tm.sk_succ (d n : Nat) : Tm.sk (d + 1) n = if n = 0 then .leaf else .node (.tuple []) (Tm.sk d (n / 2)) (Tm.sk d ((n - 1) / 2)) := by
  show Bool.rec (motive := fun _ => Tm) (.node (.tuple []) (Tm.sk d (n / 2)) (Tm.sk d ((n - 1) / 2))) .leaf (Nat.beq n 0) = _
  by_cases h : n = 0
  · rw [nbeq_true h, if_pos h]
  · rw [nbeq_false h, if_neg h]

theorem Tm.at_sk : ∀ (d n k : Nat), (Tm.sk d n).at k = .tuple []
  | 0, _, _ => rfl
  | d + 1, n, k => by
    rw [Tm.sk_succ]
    split
    · rfl
    · rw [Tm.at_node, Tm.at_sk d, Tm.at_sk d]
      simp

theorem Tm.has_sk : ∀ (d n k : Nat), 1 ≤ k → n < 2 ^ d → (Tm.sk d n).has k = decide (k ≤ n)
  | 0, n, k, h1, h2 => by
    simp only [Nat.pow_zero, Nat.lt_one_iff] at h2
    subst h2
    rw [decide_eq_false (by omega)]
    rfl
  | d + 1, n, k, h1, h2 => by
    rw [Tm.sk_succ]
    split
    · rename_i hn
      rw [decide_eq_false (by omega)]
      rfl
    · rename_i hn
      rw [Nat.pow_succ] at h2
      rw [Tm.has_node]
      by_cases hk : k = 1
      · subst hk
        rw [decide_eq_true (show 1 ≤ n by omega)]
        simp
      · rw [Tm.has_sk d (n / 2) (k / 2) (by omega) (by omega), Tm.has_sk d ((n - 1) / 2) (k / 2) (by omega) (by omega)]
        rw [decide_eq_false hk, Bool.false_or]
        split
        · exact decide_eq_decide.2 (by omega)
        · exact decide_eq_decide.2 (by omega)

theorem Tms.at_set (s : Tms) (i j : Nat) (v : AV) : Tms.at (Tms.set s i v) j = if j = i ∧ Tm.has s (i + 1) = true then v else Tms.at s j := by
  show (Tm.set v s (i + 1)).at (j + 1) = _
  rw [Tm.at_set]
  by_cases hj : j = i
  · subst hj
    simp only [true_and]
    rfl
  · rw [if_neg (fun h => hj (by omega)), if_neg (fun h => hj h.1)]
    rfl

theorem Tms.has_set (s : Tms) (i k : Nat) (v : AV) : Tm.has (Tms.set s i v) k = Tm.has s k := Tm.has_set v s _ _

theorem Tms.at_set_ne (s : Tms) {i j : Nat} (v : AV) (h : i ≠ j) : Tms.at (Tms.set s i v) j = Tms.at s j := by
  rw [Tms.at_set, if_neg (by omega)]

theorem Tms.set_same (s : Tms) (i : Nat) : Tms.set s i (Tms.at s i) = s := Tm.set_same s (i + 1)

theorem Tms.set_comm (s : Tms) {i j : Nat} (x y : AV) (h : i ≠ j) : Tms.set (Tms.set s i x) j y = Tms.set (Tms.set s j y) i x :=
  Tm.set_comm x y s (i + 1) (j + 1) (by omega)

end Go.Am
end
noncomputable section
namespace Go.Am

abbrev cellV (v : Value) : Prop := v.oneCell' = true

/-! ## What frozen values say: F is where nothing changes any more -/

mutual
inductive FR (w : World) (F : Nat → Prop) : AV → Value → Prop
  | bool (b : Bool) : FR w F (.bool b) (.bool b)
  | int (k : IntKind) (n : Int) : FR w F (.int k n) (.int k n)
  | str {s : ByteArray} {bs : List Nat} (h : bytesOf s = bs) : FR w F (.str bs) (.string s)
  | nilptr : FR w F .nilptr (.pointer none)
  | gptr (g off : Nat) : FR w F (.gptr g off) (.pointer (some ⟨g, off, none⟩))
  | fptr {p off0 off e : Nat} {c : Array Value} {fr : Nat × Nat} {vs : List Value} {cells : List AV} (hF : F p)
      (hp : w.heap[p]? = some (.cells c e fr)) (hv : FRs w F cells vs) (hc : ∀ i v, vs[i]? = some v → c[off0 + i]? = some v) :
      FR w F (.fptr cells off) (.pointer (some ⟨p, off0 + off, none⟩))
  | nilslice : FR w F .nilslice (.slice none 0 0)
  | fempty {esz cap : Nat} {full nn : Bool} {base : Option Addr} (hfull : full = true → cap = 0) (hnn : nn = true → base ≠ none)
      (hb : base = none → cap = 0) : FR w F (.fslice [] esz 0 full nn) (.slice base 0 cap)
  | fslice {p off e esz len cap : Nat} {c : Array Value} {fr : Nat × Nat} {vs : List Value} {cells : List AV} {full nn : Bool} (hF : F p)
      (hp : w.heap[p]? = some (.cells c e fr)) (hv : FRs w F cells vs) (hc : ∀ i v, vs[i]? = some v → c[off + i]? = some v)
      (hl : cells.length = len * esz) (hcap : len ≤ cap) (hfull : full = true → cap = len) :
      FR w F (.fslice cells esz len full nn) (.slice (some ⟨p, off, none⟩) len cap)
  | func {f : Nat} {vs : List AV} {cs : List Value} (h : FRs w F vs cs) : FR w F (.func f vs) (.func (.func f) #[] cs.toArray)
  | nilfunc : FR w F .nilfunc .nilFunc
  | iface {t : Nat} {a : AV} {v : Value} (h : FR w F a v) : FR w F (.iface t a) (.iface t v)
  | niliface : FR w F .niliface .nilIface
  | agg {vs : List AV} {cs : List Value} (h : FRs w F vs cs) : FR w F (.agg vs) (.agg cs.toArray)
  | tuple {vs : List AV} {cs : List Value} (h : FRs w F vs cs) : FR w F (.tuple vs) (.tuple cs.toArray)
  | fz {a : AV} {v : Value} (h : FR w F a v) (hc : cellV v) : FR w F (.fz a) v
inductive FRs (w : World) (F : Nat → Prop) : List AV → List Value → Prop
  | nil : FRs w F [] []
  | cons {a : AV} {v : Value} {as : List AV} {vs : List Value} (h : FR w F a v) (hs : FRs w F as vs) : FRs w F (a :: as) (v :: vs)
end

/-- How often a block's old references have been made void. -/
def Heap.gen? (h : Heap) (b : Nat) : Option Nat :=
  match h.at b with
  | some (.mem _ _ g _ _) => some g
  | some (.iter ..) => some 0
  | none => none

/-- Where a block lies, and which memory does not change any more. -/
structure Gh where
  φ : Nat → Nat
  F : Nat → Prop

mutual
inductive VR (w : World) (g : Gh) (h : Heap) : AV → Value → Prop
  | fr {a : AV} {v : Value} (hf : FR w g.F a v) : VR w g h a v
  | ptr {b gen off n : Nat} {a : Addr} (hb : h.gen? b = some n) (hg : gen ≤ n) (hs : a.spot = none) (ha : gen = n → a = ⟨g.φ b, off, none⟩) :
      VR w g h (.ptr b gen off) (.pointer (some a))
  | mslice {b gen off esz len cap n : Nat} {full : Bool} {a : Addr} (hb : h.gen? b = some n) (hg : gen ≤ n) (hs : a.spot = none) (hcap : len ≤ cap)
      (hfull : full = true → cap = len) (ha : gen = n → a = ⟨g.φ b, off, none⟩ ∧ ∃ c e fr, w.heap[g.φ b]? = some (.cells c e fr) ∧ off + cap * esz ≤ c.size) :
      VR w g h (.mslice b gen off esz len full) (.slice (some a) len cap)
  | func {f : Nat} {vs : List AV} {cs : List Value} (hs : VRs w g h vs cs) : VR w g h (.func f vs) (.func (.func f) #[] cs.toArray)
  | iface {t : Nat} {a : AV} {v : Value} (ha : VR w g h a v) : VR w g h (.iface t a) (.iface t v)
  | agg {vs : List AV} {cs : List Value} (hs : VRs w g h vs cs) : VR w g h (.agg vs) (.agg cs.toArray)
  | tuple {vs : List AV} {cs : List Value} (hs : VRs w g h vs cs) : VR w g h (.tuple vs) (.tuple cs.toArray)
  | junk (v : Value) : VR w g h .junk v
inductive VRs (w : World) (g : Gh) (h : Heap) : List AV → List Value → Prop
  | nil : VRs w g h [] []
  | cons {a : AV} {v : Value} {as : List AV} {vs : List Value} (ha : VR w g h a v) (hs : VRs w g h as vs) : VRs w g h (a :: as) (v :: vs)
end

/-- A block of abstract memory, and the block that it stands for. -/
def BR (w : World) (g : Gh) (h : Heap) (b : Nat) : Blk → Prop
  | .mem cells elem _ ro pr => ∃ (c : Array Value) (fr : Nat × Nat) (vs : List Value), w.heap[g.φ b]? = some (Obj.cells c elem fr) ∧ VRs w g h cells vs ∧ (pr = true → FRs w g.F cells vs) ∧
      (∀ (i : Nat) (v : Value), vs[i]? = some v → c[i]? = some v) ∧
      (ro = false → ¬ g.F (g.φ b) ∧ ∀ i, i < c.size → (decide (fr.1 ≤ i) && decide (i < fr.2)) = false) ∧ (ro = true → g.F (g.φ b))
  | .iter s pos => ¬ g.F (g.φ b) ∧ ∃ s', bytesOf s' = s ∧ w.heap[g.φ b]? = some (.stringIter s' pos)

def Blk.ro : Blk → Bool
  | .mem _ _ _ ro _ => ro
  | .iter .. => false

/-- The memory that a heap owns: it may still change. -/
def Own (g : Gh) (h : Heap) (p : Nat) : Prop := ∃ b x, h.at b = some x ∧ x.ro = false ∧ g.φ b = p

structure HR (E : Env) (w : World) (g : Gh) (h : Heap) : Prop where
  blk : ∀ b x, h.at b = some x → BR w g h b x
  inj : ∀ b c x y, h.at b = some x → h.at c = some y → x.ro = false → y.ro = false → g.φ b = g.φ c → b = c
  lim : ∀ p, g.F p → p < w.heap.size
  glob : ∀ n cells, E.glob n = some cells → g.F n ∧ ∃ (c : Array Value) (e : TypeId) (fr : Nat × Nat) (vs : List Value), w.heap[n]? = some (Obj.cells c e fr) ∧ FRs w g.F cells vs ∧ ∀ (i : Nat) (v : Value), vs[i]? = some v → c[i]? = some v

/-- What a step may do. -/
structure Stp (w : World) (g : Gh) (h : Heap) (w' : World) (g' : Gh) (h' : Heap) : Prop where
  size : w.heap.size ≤ w'.heap.size
  frame : ∀ p, p < w.heap.size → ¬ Own g h p → w'.heap[p]? = w.heap[p]?
  shape : ∀ (p : Nat) (c : Array Value) (e : TypeId) (fr : Nat × Nat), w.heap[p]? = some (Obj.cells c e fr) → ∃ (c' : Array Value) (fr' : Nat × Nat), w'.heap[p]? = some (Obj.cells c' e fr') ∧ c'.size = c.size
  fst : ∀ p, g.F p → g'.F p
  fnew : ∀ p, g'.F p → g.F p ∨ Own g h p ∨ w.heap.size ≤ p
  own : ∀ p, Own g' h' p → Own g h p ∨ w.heap.size ≤ p
  gens : ∀ b n, h.gen? b = some n → ∃ n', h'.gen? b = some n' ∧ n ≤ n' ∧ (n = n' → g'.φ b = g.φ b)
  tape : w'.tape = w.tape
  os : w'.os = w.os
  output : w'.output = w.output

/-! ## Frozen values stay -/

mutual
theorem FR.stays {w w' : World} {F F' : Nat → Prop} (hF : ∀ p, F p → F' p) (hw : ∀ p, F p → w'.heap[p]? = w.heap[p]?) :
    ∀ {a : AV} {v : Value}, FR w F a v → FR w' F' a v
  | _, _, .bool b => .bool b
  | _, _, .int k n => .int k n
  | _, _, .str h => .str h
  | _, _, .nilptr => .nilptr
  | _, _, .gptr g o => .gptr g o
  | _, _, .fptr h hp hv hc => .fptr (hF _ h) ((hw _ h).trans hp) (FRs.stays hF hw hv) hc
  | _, _, .nilslice => .nilslice
  | _, _, .fempty a b c => .fempty a b c
  | _, _, .fslice h hp hv hc hl hcap hfull => .fslice (hF _ h) ((hw _ h).trans hp) (FRs.stays hF hw hv) hc hl hcap hfull
  | _, _, .func h => .func (FRs.stays hF hw h)
  | _, _, .nilfunc => .nilfunc
  | _, _, .iface h => .iface (FR.stays hF hw h)
  | _, _, .niliface => .niliface
  | _, _, .agg h => .agg (FRs.stays hF hw h)
  | _, _, .tuple h => .tuple (FRs.stays hF hw h)
  | _, _, .fz h hc => .fz (FR.stays hF hw h) hc
theorem FRs.stays {w w' : World} {F F' : Nat → Prop} (hF : ∀ p, F p → F' p) (hw : ∀ p, F p → w'.heap[p]? = w.heap[p]?) :
    ∀ {as : List AV} {vs : List Value}, FRs w F as vs → FRs w' F' as vs
  | _, _, .nil => .nil
  | _, _, .cons h hs => .cons (FR.stays hF hw h) (FRs.stays hF hw hs)
end

theorem HR.notOwn {E : Env} {w : World} {g : Gh} {h : Heap} (hr : HR E w g h) {p : Nat} (hp : g.F p) : ¬ Own g h p := by
  rintro ⟨b, x, hx, hro, rfl⟩
  have := hr.blk b x hx
  cases x with
  | mem cells elem gen ro pr =>
    obtain ⟨c, fr, vs, -, -, -, -, hn, -⟩ := this
    exact (hn hro).1 hp
  | iter s pos => exact this.1 hp

theorem Stp.fstays {E : Env} {w w' : World} {g g' : Gh} {h h' : Heap} (hr : HR E w g h) (hs : Stp w g h w' g' h') {p : Nat} (hp : g.F p) :
    w'.heap[p]? = w.heap[p]? := hs.frame p (hr.lim p hp) (hr.notOwn hp)

theorem FR.step {E : Env} {w w' : World} {g g' : Gh} {h h' : Heap} (hr : HR E w g h) (hs : Stp w g h w' g' h') {a : AV} {v : Value}
    (hf : FR w g.F a v) : FR w' g'.F a v := hf.stays hs.fst fun _ hp => hs.fstays hr hp
theorem FRs.step {E : Env} {w w' : World} {g g' : Gh} {h h' : Heap} (hr : HR E w g h) (hs : Stp w g h w' g' h') {a : List AV} {v : List Value}
    (hf : FRs w g.F a v) : FRs w' g'.F a v := hf.stays hs.fst fun _ hp => hs.fstays hr hp

mutual
theorem VR.step {E : Env} {w w' : World} {g g' : Gh} {h h' : Heap} (hr : HR E w g h) (hs : Stp w g h w' g' h') :
    ∀ {a : AV} {v : Value}, VR w g h a v → VR w' g' h' a v
  | _, _, .fr hf => .fr (hf.step hr hs)
  | _, _, .ptr hb hg hsp ha => by
    obtain ⟨n', hn', hle, hφ⟩ := hs.gens _ _ hb
    refine .ptr hn' (Nat.le_trans hg hle) hsp fun he => ?_
    have h1 := Nat.le_antisymm hg (he ▸ hle)
    rw [hφ (h1 ▸ he)]
    exact ha h1
  | _, _, .mslice hb hg hsp hcap hfull ha => by
    obtain ⟨n', hn', hle, hφ⟩ := hs.gens _ _ hb
    refine .mslice hn' (Nat.le_trans hg hle) hsp hcap hfull fun he => ?_
    have h1 := Nat.le_antisymm hg (he ▸ hle)
    obtain ⟨h2, c, e, fr, hv4, hv5⟩ := ha h1
    obtain ⟨c', fr', hc', hsz⟩ := hs.shape _ _ _ _ hv4
    rw [hφ (h1 ▸ he)]
    exact ⟨h2, c', e, fr', hc', by omega⟩
  | _, _, .func h => .func (VRs.step hr hs h)
  | _, _, .iface h => .iface (VR.step hr hs h)
  | _, _, .agg h => .agg (VRs.step hr hs h)
  | _, _, .tuple h => .tuple (VRs.step hr hs h)
  | _, _, .junk v => .junk v
theorem VRs.step {E : Env} {w w' : World} {g g' : Gh} {h h' : Heap} (hr : HR E w g h) (hs : Stp w g h w' g' h') :
    ∀ {as : List AV} {vs : List Value}, VRs w g h as vs → VRs w' g' h' as vs
  | _, _, .nil => .nil
  | _, _, .cons h hs' => .cons (VR.step hr hs h) (VRs.step hr hs hs')
end

theorem Stp.refl (w : World) (g : Gh) (h : Heap) : Stp w g h w g h :=
  ⟨Nat.le_refl _, fun _ _ _ => rfl, fun _ c _ fr hp => ⟨c, fr, hp, rfl⟩, fun _ h => h, fun _ h => .inl h, fun _ h => .inl h,
    fun _ n hn => ⟨n, hn, Nat.le_refl _, fun _ => rfl⟩, rfl, rfl, rfl⟩

theorem Stp.trans {w w' w'' : World} {g g' g'' : Gh} {h h' h'' : Heap} (a : Stp w g h w' g' h') (b : Stp w' g' h' w'' g'' h'') : Stp w g h w'' g'' h'' where
  size := Nat.le_trans a.size b.size
  frame p hp ho := by
    rw [b.frame p (Nat.lt_of_lt_of_le hp a.size) (fun ho' => (a.own p ho').elim ho (fun hge => by omega)), a.frame p hp ho]
  shape p c e fr hp := by
    obtain ⟨c', fr', hc', h1⟩ := a.shape p c e fr hp
    obtain ⟨c'', fr'', hc'', h2⟩ := b.shape p c' e fr' hc'
    exact ⟨c'', fr'', hc'', h2.trans h1⟩
  fst p hp := b.fst p (a.fst p hp)
  fnew p hp := by
    rcases b.fnew p hp with h | h | h
    · exact a.fnew p h
    · exact .inr ((a.own p h).imp id id)
    · exact .inr (.inr (Nat.le_trans a.size h))
  own p hp := by
    rcases b.own p hp with h | h
    · exact a.own p h
    · exact .inr (Nat.le_trans a.size h)
  gens c n hn := by
    obtain ⟨n', hn', h1, h2⟩ := a.gens c n hn
    obtain ⟨n'', hn'', h3, h4⟩ := b.gens c n' hn'
    refine ⟨n'', hn'', Nat.le_trans h1 h3, fun he => ?_⟩
    have : n = n' := Nat.le_antisymm h1 (he ▸ h3)
    rw [h4 (this ▸ he), h2 this]
  tape := b.tape.trans a.tape
  os := b.os.trans a.os
  output := b.output.trans a.output

end Go.Am
end
noncomputable section
namespace Go.Am

theorem VRs.length {w : World} {g : Gh} {h : Heap} : ∀ {as : List AV} {vs : List Value}, VRs w g h as vs → as.length = vs.length
  | _, _, .nil => rfl
  | _, _, .cons _ hs => by simp [VRs.length hs]
theorem FRs.length {w : World} {F : Nat → Prop} : ∀ {as : List AV} {vs : List Value}, FRs w F as vs → as.length = vs.length
  | _, _, .nil => rfl
  | _, _, .cons _ hs => by simp [FRs.length hs]

theorem VRs.get {w : World} {g : Gh} {h : Heap} : ∀ {as : List AV} {vs : List Value} {i : Nat} {a : AV}, VRs w g h as vs → as[i]? = some a →
    ∃ v, vs[i]? = some v ∧ VR w g h a v
  | _, _, i, a, .nil, hi => by simp at hi
  | _, _, 0, a, .cons h _, hi => by simp at hi; exact ⟨_, rfl, hi ▸ h⟩
  | _, _, i + 1, a, .cons _ hs, hi => by
    simp at hi
    obtain ⟨v, hv, h⟩ := VRs.get hs hi
    exact ⟨v, by simpa using hv, h⟩
theorem FRs.get {w : World} {F : Nat → Prop} : ∀ {as : List AV} {vs : List Value} {i : Nat} {a : AV}, FRs w F as vs → as[i]? = some a →
    ∃ v, vs[i]? = some v ∧ FR w F a v
  | _, _, i, a, .nil, hi => by simp at hi
  | _, _, 0, a, .cons h _, hi => by simp at hi; exact ⟨_, rfl, hi ▸ h⟩
  | _, _, i + 1, a, .cons _ hs, hi => by
    simp at hi
    obtain ⟨v, hv, h⟩ := FRs.get hs hi
    exact ⟨v, by simpa using hv, h⟩

theorem FRs.vrs {w : World} {g : Gh} {h : Heap} : ∀ {as : List AV} {vs : List Value}, FRs w g.F as vs → VRs w g h as vs
  | _, _, .nil => .nil
  | _, _, .cons ha hs => .cons (.fr ha) (FRs.vrs hs)

theorem VRs.append {w : World} {g : Gh} {h : Heap} : ∀ {as : List AV} {vs : List Value} {bs : List AV} {us : List Value}, VRs w g h as vs → VRs w g h bs us →
    VRs w g h (as ++ bs) (vs ++ us)
  | _, _, _, _, .nil, hb => hb
  | _, _, _, _, .cons ha hs, hb => .cons ha (VRs.append hs hb)
theorem FRs.append {w : World} {F : Nat → Prop} : ∀ {as : List AV} {vs : List Value} {bs : List AV} {us : List Value}, FRs w F as vs → FRs w F bs us →
    FRs w F (as ++ bs) (vs ++ us)
  | _, _, _, _, .nil, hb => hb
  | _, _, _, _, .cons ha hs, hb => .cons ha (FRs.append hs hb)

theorem VRs.take {w : World} {g : Gh} {h : Heap} : ∀ {as : List AV} {vs : List Value} (n : Nat), VRs w g h as vs → VRs w g h (as.take n) (vs.take n)
  | _, _, 0, _ => by simpa using .nil
  | _, _, _ + 1, .nil => by simpa using .nil
  | _, _, n + 1, .cons ha hs => by simpa using .cons ha (VRs.take n hs)
theorem VRs.drop {w : World} {g : Gh} {h : Heap} : ∀ {as : List AV} {vs : List Value} (n : Nat), VRs w g h as vs → VRs w g h (as.drop n) (vs.drop n)
  | _, _, 0, h => by simpa using h
  | _, _, _ + 1, .nil => by simpa using .nil
  | _, _, n + 1, .cons _ hs => by simpa using VRs.drop n hs
theorem FRs.take {w : World} {F : Nat → Prop} : ∀ {as : List AV} {vs : List Value} (n : Nat), FRs w F as vs → FRs w F (as.take n) (vs.take n)
  | _, _, 0, _ => by simpa using .nil
  | _, _, _ + 1, .nil => by simpa using .nil
  | _, _, n + 1, .cons ha hs => by simpa using .cons ha (FRs.take n hs)
theorem FRs.drop {w : World} {F : Nat → Prop} : ∀ {as : List AV} {vs : List Value} (n : Nat), FRs w F as vs → FRs w F (as.drop n) (vs.drop n)
  | _, _, 0, h => by simpa using h
  | _, _, _ + 1, .nil => by simpa using .nil
  | _, _, n + 1, .cons _ hs => by simpa using FRs.drop n hs

theorem VRs.set {w : World} {g : Gh} {h : Heap} {a : AV} {v : Value} (ha : VR w g h a v) : ∀ {as : List AV} {vs : List Value} (n : Nat), VRs w g h as vs →
    VRs w g h (as.set n a) (vs.set n v)
  | _, _, 0, .nil => .nil
  | _, _, _ + 1, .nil => .nil
  | _, _, 0, .cons _ hs => .cons ha hs
  | _, _, n + 1, .cons hb hs => .cons hb (VRs.set ha n hs)
theorem FRs.set {w : World} {F : Nat → Prop} {a : AV} {v : Value} (ha : FR w F a v) : ∀ {as : List AV} {vs : List Value} (n : Nat), FRs w F as vs →
    FRs w F (as.set n a) (vs.set n v)
  | _, _, 0, .nil => .nil
  | _, _, _ + 1, .nil => .nil
  | _, _, 0, .cons _ hs => .cons ha hs
  | _, _, n + 1, .cons hb hs => .cons hb (FRs.set ha n hs)

theorem VRs.replicate {w : World} {g : Gh} {h : Heap} {a : AV} {v : Value} (ha : VR w g h a v) : ∀ n, VRs w g h (List.replicate n a) (List.replicate n v)
  | 0 => .nil
  | n + 1 => .cons ha (VRs.replicate ha n)

/-! ## Constants -/

theorem cv0_rel (w : World) (g : Gh) (h : Heap) (v : Value) : VR w g h (cv0 v) v := by
  cases v with
  | bool b => exact .fr (.bool b)
  | int k n => exact .fr (.int k n)
  | string s => exact .fr (.str rfl)
  | pointer a => cases a with
    | none => exact .fr .nilptr
    | some a => exact .junk _
  | slice a n m =>
    cases a with
    | none => cases n with
      | zero => cases m with
        | zero => exact .fr .nilslice
        | succ m => exact .junk _
      | succ n => exact .junk _
    | some a => exact .junk _
  | nilFunc => exact .fr .nilfunc
  | nilIface => exact .fr .niliface
  | _ => exact .junk _

theorem cv0_rels (w : World) (g : Gh) (h : Heap) : ∀ vs : List Value, VRs w g h (vs.map cv0) vs
  | [] => .nil
  | v :: vs => .cons (cv0_rel w g h v) (cv0_rels w g h vs)

theorem cv_rel (w : World) (g : Gh) (h : Heap) (v : Value) : VR w g h (cv v) v := by
  unfold cv
  split
  · exact .agg (cs := _) (cv0_rels w g h _)
  · exact .tuple (cs := _) (cv0_rels w g h _)
  · exact cv0_rel w g h _

theorem undef_rel (w : World) (F : Nat → Prop) : FR w F (.tuple []) undef := .tuple .nil

/-! ## Temporaries -/

structure TR (w : World) (g : Gh) (h : Heap) (s : Tms) (a : Array Value) : Prop where
  has : ∀ k, Tm.has s (k + 1) = decide (k < a.size)
  val : ∀ i, VR w g h (Tms.at s i) (a.getD i undef)

theorem TR.step {E : Env} {w w' : World} {g g' : Gh} {h h' : Heap} {s : Tms} {a : Array Value} (hr : HR E w g h) (hs : Stp w g h w' g' h') (ht : TR w g h s a) : TR w' g' h' s a :=
  ⟨ht.has, fun i => (ht.val i).step hr hs⟩

theorem TR.set {w : World} {g : Gh} {h : Heap} {s : Tms} {a : Array Value} {x : AV} {v : Value} (ht : TR w g h s a) (hx : VR w g h x v) (d : Nat) : TR w g h (Tms.set s d x) (a.setIfInBounds d v) where
  has k := by rw [Tms.has_set, Array.size_setIfInBounds]; exact ht.has k
  val i := by
    rw [Tms.at_set, ht.has d, Array.getD_eq_getD_getElem?, Array.getElem?_setIfInBounds]
    by_cases hi : i = d
    · subst hi
      by_cases hd : i < a.size
      · rw [if_pos ⟨rfl, decide_eq_true hd⟩, if_pos rfl, if_pos hd]
        exact hx
      · rw [if_neg (fun h => hd (of_decide_eq_true h.2)), if_pos rfl, if_neg hd]
        have := ht.val i
        rw [Array.getD_eq_getD_getElem?, Array.getElem?_eq_none (by omega)] at this
        exact this
    · rw [if_neg (fun h => hi h.1), if_neg (Ne.symm hi)]
      have := ht.val i
      rw [Array.getD_eq_getD_getElem?] at this
      exact this

theorem evalO_rel {w : World} {g : Gh} {h : Heap} {tmps : Tms} {a : Act} (ht : TR w g h tmps a.tmps) (x : Operand) :
    VR w g h (evalO tmps x) (a.eval x) := by
  cases x with
  | tmp t => exact ht.val t
  | const v => exact cv_rel w g h v
  | global n => exact .fr (.gptr n 0)
  | func f => exact .fr (.func (cs := []) .nil)

theorem evalO_rels {w : World} {g : Gh} {h : Heap} {tmps : Tms} {a : Act} (ht : TR w g h tmps a.tmps) :
    ∀ xs : List Operand, VRs w g h (xs.map (evalO tmps)) (xs.map a.eval)
  | [] => .nil
  | x :: xs => .cons (evalO_rel ht x) (evalO_rels ht xs)

/-! ## One block turned -/

theorem BR.step {E : Env} {w w' : World} {g g' : Gh} {h h' : Heap} {b : Nat} {x : Blk} (hr : HR E w g h) (hs : Stp w g h w' g' h') (hb : h.at b = some x)
    (hφ : g'.φ b = g.φ b) (hk : w'.heap[g.φ b]? = w.heap[g.φ b]?) (hF : x.ro = false → ¬ g'.F (g.φ b)) : BR w' g' h' b x := by
  have := hr.blk b x hb
  cases x with
  | mem cells elem gen ro pr =>
    obtain ⟨c, fr, vs, h1, h2, h3, h4, h5, h6⟩ := this
    refine ⟨c, fr, vs, by rw [hφ, hk, h1], h2.step hr hs, fun hp => (h3 hp).step hr hs, h4, fun hro => ⟨by rw [hφ]; exact hF hro, (h5 hro).2⟩, fun hro => ?_⟩
    rw [hφ]
    exact hs.fst _ (h6 hro)
  | iter s pos =>
    obtain ⟨h1, s', h2, h3⟩ := this
    exact ⟨by rw [hφ]; exact hF rfl, s', h2, by rw [hφ, hk, h3]⟩

/-- One block laid or turned: all others stay. -/
theorem HR.put {E : Env} {w w' : World} {g g' : Gh} {h : Heap} {i : Nat} {x : Blk} (hr : HR E w g h) (hs : Stp w g h w' g' (h.put i x))
    (hφ : ∀ b y, b ≠ i → h.at b = some y → g'.φ b = g.φ b)
    (hk : ∀ b y, b ≠ i → h.at b = some y → w'.heap[g.φ b]? = w.heap[g.φ b]?)
    (hF : ∀ b y, b ≠ i → h.at b = some y → y.ro = false → ¬ g'.F (g.φ b))
    (hx : BR w' g' (h.put i x) i x)
    (hinj : x.ro = false → ∀ b y, b ≠ i → h.at b = some y → y.ro = false → g'.φ i ≠ g.φ b)
    (hlim : ∀ p, g'.F p → p < w'.heap.size) : HR E w' g' (h.put i x) where
  blk b y hy := by
    rw [Heap.at_put] at hy
    split at hy
    · rename_i hb
      subst hb
      obtain rfl : x = y := by simpa using hy
      exact hx
    · rename_i hb
      exact BR.step hr hs hy (hφ b y hb hy) (hk b y hb hy) (hF b y hb hy)
  inj b c y z hy hz hyr hzr he := by
    rw [Heap.at_put] at hy hz
    by_cases hb : b = i
    · rw [if_pos hb] at hy
      by_cases hc : c = i
      · exact hb.trans hc.symm
      · rw [if_neg hc] at hz
        subst hb
        rw [hφ c z hc hz] at he
        obtain rfl : x = y := by simpa using hy
        exact absurd he (hinj hyr c z hc hz hzr)
    · rw [if_neg hb] at hy
      by_cases hc : c = i
      · subst hc
        rw [if_pos rfl] at hz
        obtain rfl : x = z := by simpa using hz
        rw [hφ b y hb hy] at he
        exact absurd he.symm (hinj hzr b y hb hy hyr)
      · rw [if_neg hc] at hz
        rw [hφ b y hb hy, hφ c z hc hz] at he
        exact hr.inj b c y z hy hz hyr hzr he
  lim := hlim
  glob n cells hn := by
    obtain ⟨hFn, c, e, fr, vs, h1, h2, h3⟩ := hr.glob n cells hn
    exact ⟨hs.fst _ hFn, c, e, fr, vs, (hs.fstays hr hFn).trans h1, h2.step hr hs, h3⟩

theorem Own_put {g g' : Gh} {h : Heap} {i : Nat} {x : Blk} (hφ : ∀ b y, b ≠ i → h.at b = some y → g'.φ b = g.φ b) {p : Nat} (hp : Own g' (h.put i x) p) :
    Own g h p ∨ (x.ro = false ∧ p = g'.φ i) := by
  obtain ⟨b, y, hy, hyr, rfl⟩ := hp
  rw [Heap.at_put] at hy
  by_cases hb : b = i
  · subst hb
    rw [if_pos rfl] at hy
    obtain rfl : x = y := by simpa using hy
    exact .inr ⟨hyr, rfl⟩
  · rw [if_neg hb] at hy
    exact .inl ⟨b, y, hy, hyr, (hφ b y hb hy).symm⟩

theorem gen?_put (h : Heap) (i b : Nat) (x : Blk) : (h.put i x).gen? b = if b = i then (match x with | .mem _ _ g _ _ => some g | .iter .. => some 0) else h.gen? b := by
  unfold Heap.gen?
  rw [Heap.at_put]
  by_cases hb : b = i
  · simp only [hb, if_true]
    cases x <;> rfl
  · simp only [hb, if_false]

theorem HR.lt {E : Env} {w : World} {g : Gh} {h : Heap} (hr : HR E w g h) {b : Nat} {x : Blk} (hb : h.at b = some x) : g.φ b < w.heap.size := by
  have := hr.blk b x hb
  cases x with
  | mem cells elem gen ro pr =>
    obtain ⟨c, fr, vs, h1, -⟩ := this
    exact (Array.getElem?_eq_some_iff.1 h1).1
  | iter s pos =>
    obtain ⟨-, s', -, h1⟩ := this
    exact (Array.getElem?_eq_some_iff.1 h1).1

/-! ## A new block -/

def Gh.lay (g : Gh) (i p : Nat) : Gh := ⟨fun b => if b = i then p else g.φ b, g.F⟩

theorem laid_old (w : World) (o : Obj) {p : Nat} (hp : p < w.heap.size) : (w.alloc o).heap[p]? = w.heap[p]? := by
  show (w.heap.push o)[p]? = _
  rw [Array.getElem?_push, if_neg (Nat.ne_of_lt hp)]

theorem laid_new (w : World) (o : Obj) : (w.alloc o).heap[w.heap.size]? = some o := by
  show (w.heap.push o)[w.heap.size]? = _
  simp

theorem Stp.laid {E : Env} {w : World} {g : Gh} {h : Heap} {i : Nat} {x : Blk} {o : Obj} (hr : HR E w g h) (hi : h.at i = none) :
    Stp w g h (w.alloc o) (g.lay i w.heap.size) (h.put i x) where
  size := by simp
  frame p hp _ := laid_old w o hp
  shape p c e fr hp := ⟨c, fr, by rw [laid_old w o (Array.getElem?_eq_some_iff.1 hp).1, hp], rfl⟩
  fst _ hp := hp
  fnew _ hp := .inl hp
  own p hp := by
    rcases Own_put (g := g) (fun b y hb _ => by simp [Gh.lay, hb]) hp with h1 | ⟨_, h1⟩
    · exact .inl h1
    · right; rw [h1]; simp [Gh.lay]
  gens b n hn := by
    have hb : b ≠ i := by
      rintro rfl
      simp [Heap.gen?, hi] at hn
    exact ⟨n, by rw [gen?_put, if_neg hb, hn], Nat.le_refl _, fun _ => by simp [Gh.lay, hb]⟩
  tape := rfl
  os := rfl
  output := rfl

theorem HR.laid {E : Env} {w : World} {g : Gh} {h : Heap} {i : Nat} {x : Blk} {o : Obj} (hr : HR E w g h) (hi : h.at i = none)
    (hx : BR (w.alloc o) (g.lay i w.heap.size) (h.put i x) i x) : HR E (w.alloc o) (g.lay i w.heap.size) (h.put i x) :=
  hr.put (.laid hr hi) (fun b y hb _ => by simp [Gh.lay, hb]) (fun b y _ hy => laid_old w o (hr.lt hy))
    (fun b y _ hy hyr hF => hr.notOwn hF ⟨b, y, hy, hyr, rfl⟩) hx
    (fun _ b y hb hy _ => by have := hr.lt hy; simp [Gh.lay]; omega)
    (fun p hp => by have := hr.lim p hp; simp; omega)

/-- Cells laid in a new block. -/
theorem BR.laid {E : Env} {w : World} {g : Gh} {h : Heap} {i : Nat} {cells : List AV} {elem : Nat} {pr : Bool} {c : Array Value} {vs : List Value} {fr : Nat × Nat}
    (hr : HR E w g h) (hi : h.at i = none) (hv : VRs w g h cells vs) (hp : pr = true → FRs w g.F cells vs) (hc : ∀ (i : Nat) (v : Value), vs[i]? = some v → c[i]? = some v)
    (hfr : ∀ i, i < c.size → (decide (fr.1 ≤ i) && decide (i < fr.2)) = false) :
    BR (w.alloc (.cells c elem fr)) (g.lay i w.heap.size) (h.put i (.mem cells elem 0 false pr)) i (.mem cells elem 0 false pr) := by
  have hs : Stp w g h (w.alloc (.cells c elem fr)) (g.lay i w.heap.size) (h.put i (.mem cells elem 0 false pr)) := .laid hr hi
  refine ⟨c, fr, vs, ?_, hv.step hr hs, fun h => (hp h).step hr hs, hc, fun _ => ⟨fun hF => ?_, hfr⟩, fun h => by cases h⟩
  · simp only [Gh.lay, if_true]; exact laid_new w _
  · have := hr.lim _ hF
    simp [Gh.lay] at this

end Go.Am
end
