/- The abstract machine: a deterministic evaluator of the program form, and what a state of it says of a world of the model. -/
import GoSem.Dispatch
import Derived.Calls
import Derived.AtR
import Derived.Laws.Sem
import Derived.Laws.Cells
/-
  AM: a deterministic, executable evaluator over the model's Code, on values without addresses and capacities. Definitions alone.
-/
namespace Go.AM

inductive SK where
  | nil | free | clip
  deriving DecidableEq, Inhabited

/-- Values of the abstract machine. -/
inductive V where
  | bool (b : Bool)
  | int (k : IntKind) (n : Int)
  | str (s : List Nat)
  | nilptr
  /-- into a block of cells -/
  | ptr (g off : Nat)
  /-- into cells that never change -/
  | el (cells : List V) (off : Nat)
  /-- into an element of a list object -/
  | lst (g ver : Nat) (T : TypeId) (idx off : Nat)
  /-- a slice that never changes -/
  | slice (k : SK) (T : TypeId) (l : List V)
  /-- a slice of a list object (clip: its capacity, where it is known) -/
  | mslice (g ver : Nat) (T : TypeId) (off len : Nat) (clip : Option Nat)
  /-- a slice of an array of one-cell elements in a block of cells -/
  | cslice (g : Nat) (T : TypeId) (off len cap : Nat)
  | map (r : Option Nat)
  | func (fn : Fn) (first captured : List V)
  | yield (g : Nat)
  | nilFunc
  | iface (t : TypeId) (v : V)
  | nilIface
  | agg (cells : List V)
  | tuple (vs : List V)
  deriving Inhabited

def undefV : V := .tuple []

inductive LoopSt where
  | ready | busy | done | exhausted
  deriving DecidableEq, Inhabited

/-- Objects. -/
inductive Ob where
  | cells (c : List V)
  | list (T : TypeId) (ver : Nat) (l : List V)
  | map (es : List (V × V × Nat)) (clock : Nat)
  | siter (s : List Nat) (pos : Nat)
  | miter (m : Option Nat) (since : Nat) (seen : List Nat) (stepped : Nat)
  | loop (st : LoopSt) (pending : Option Code) (fn : FuncId) (tmps : List V) (params : List Tmp) (assign body : Code)
  | dead
  deriving Inhabited

abbrev Heap := List Ob

inductive TK where
  | bool | int (k : IntKind) | str | ptr (e : TypeId) | slice (e : TypeId) | array (n : Nat) (e : TypeId)
  | map (k e : TypeId) | struct (fs : List (Nat × TypeId)) | func | iface | other
  deriving Inhabited

inductive LK where
  | bool | int | str
  deriving DecidableEq, Inhabited

/-- What is known of a type. flat: the leaves, where it is built of ints, bools and strings alone, no field blank. -/
structure TI where
  kind : TK
  size : Nat
  bytes : Nat
  zero : V
  flat : Option (List LK)
  deriving Inhabited

inductive Mode where
  | keep | trim
  deriving DecidableEq, Inhabited

structure Plan where
  order : List Nat
  /-- (operation, place): it gives the same at the state ahead of that place of the order -/
  wins : List (Nat × Nat)
  deriving Inhabited

structure Env where
  ti : TypeId → Option TI
  fn : FuncId → Option Func
  mode : FuncId → Mode
  plan : FuncId → Nat → Option Plan
  meth : TypeId → String → Option FuncId

/-- search trees -/
inductive Tr (α : Type) where
  | nil
  | node (k : Nat) (v : α) (l r : Tr α)

def Tr.get? {α : Type} (n : Nat) : Tr α → Option α
  | .nil => none
  | .node k v l r => if n = k then some v else if n < k then l.get? n else r.get? n

/-! ### plain helpers -/

def bytesOf (s : ByteArray) : List Nat := s.data.toList.map (·.toNat)

mutual
def ofValue : Value → Option V
  | .bool b => some (.bool b)
  | .int k n => some (.int k n)
  | .string s => some (.str (bytesOf s))
  | .pointer none => some .nilptr
  | .slice none 0 0 => some (.slice .nil 0 [])
  | .map none => some (.map none)
  | .nilFunc => some .nilFunc
  | .nilIface => some .nilIface
  | .agg ⟨cs⟩ => (ofValues cs).map .agg
  | .tuple ⟨cs⟩ => (ofValues cs).map .tuple
  | _ => none
def ofValues : List Value → Option (List V)
  | [] => some []
  | v :: l => match ofValue v, ofValues l with
    | some x, some xs => some (x :: xs)
    | _, _ => none
end

def V.cells : V → List V
  | .agg cs => cs
  | v => [v]

/-- may it stand in one cell? -/
def V.one : V → Bool
  | .agg _ | .tuple _ => false
  | _ => true

/-- a temporary: as `List.getD`, said so that the kernel reads it fast -/
noncomputable def getT (T : List V) : Nat → V :=
  List.rec (motive := fun _ => Nat → V) (fun _ => undefV) (fun x _ ih n => Nat.rec (motive := fun _ => V) x (fun m _ => ih m) n) T

theorem getT_eq : ∀ (T : List V) (t : Nat), getT T t = T.getD t undefV
  | [], _ => rfl
  | _ :: _, 0 => rfl
  | _ :: T, t + 1 => getT_eq T t

/-- as `List.set` -/
noncomputable def setT (T : List V) (t : Nat) (v : V) : List V :=
  List.rec (motive := fun _ => Nat → List V) (fun _ => []) (fun x l ih n => Nat.rec (motive := fun _ => List V) (v :: l) (fun m _ => x :: ih m) n) T t

theorem setT_eq : ∀ (T : List V) (t : Nat) (v : V), setT T t v = T.set t v
  | [], _, _ => rfl
  | _ :: _, 0, _ => rfl
  | x :: T, t + 1, v => congrArg (x :: ·) (setT_eq T t v)

noncomputable def evalV (T : List V) : Operand → Option V
  | .tmp t => some (getT T t)
  | .const v => ofValue v
  | .global _ => none
  | .func f => some (.func (.func f) [] [])

noncomputable def evalVs (T : List V) : List Operand → Option (List V)
  | [] => some []
  | o :: l => match evalV T o, evalVs T l with
    | some x, some xs => some (x :: xs)
    | _, _ => none

def TK.isAgg : TK → Bool
  | .struct _ | .array _ _ => true
  | _ => false

/-- n cells from off on -/
def takeAt (c : List V) (off n : Nat) : Option (List V) :=
  if off + n ≤ c.length then some ((c.drop off).take n) else none

/-- a value of a type out of cells -/
def partV (i : TI) (c : List V) (off : Nat) : Option V :=
  if i.kind.isAgg then (if i.size = 0 then none else (takeAt c off i.size).map .agg) else c[off]?

def spliceAt (c : List V) (off : Nat) (new : List V) : List V := c.take off ++ new ++ c.drop (off + new.length)

/-- a pointer, further on -/
def shiftV (p : V) (n : Nat) : Option V :=
  match p with
  | .ptr g o => some (.ptr g (o + n))
  | .el c o => some (.el c (o + n))
  | .lst g v T i o => some (.lst g v T i (o + n))
  | _ => none

/-- an element again out of its cells -/
def reshape (old : V) (c : List V) : Option V :=
  match old, c with
  | .agg _, c => some (.agg c)
  | _, [x] => some x
  | _, _ => none

def loadV (h : Heap) (i : TI) : V → Option V
  | .ptr g off => match h[g]? with
    | some (.cells c) => partV i c off
    | _ => none
  | .el c off => partV i c off
  | .lst g ver T idx off => match h[g]? with
    | some (.list T' ver' l) => if ver = ver' ∧ T = T' then (l[idx]?).bind fun x => partV i x.cells off else none
    | _ => none
  | _ => none

def storeV (h : Heap) (i : TI) (p v : V) : Option Heap :=
  if v.cells.length ≠ i.size || !(v.cells.all V.one) || i.size = 0 then none else
  match p with
  | .ptr g off => match h[g]? with
    | some (.cells c) => if off + i.size ≤ c.length then some (h.set g (.cells (spliceAt c off v.cells))) else none
    | _ => none
  | .lst g ver T' idx off => match h[g]? with
    | some (.list T ver' l) =>
      if ver = ver' ∧ T' = T then
        match l[idx]? with
        | some x => if off + i.size ≤ x.cells.length then (reshape x (spliceAt x.cells off v.cells)).map fun y => h.set g (.list T ver (l.set idx y)) else none
        | none => none
      else none
    | _ => none
  | _ => none

/-- the elements of a slice, as they are now -/
def elemsV (h : Heap) : V → Option (List V)
  | .slice _ _ l => some l
  | .mslice g ver T off len _ => match h[g]? with
    | some (.list T' ver' l) => if ver = ver' ∧ T = T' ∧ off + len ≤ l.length then some ((l.drop off).take len) else none
    | _ => none
  | .cslice g _ off len _ => match h[g]? with
    | some (.cells c) => takeAt c off len
    | _ => none
  | _ => none

def lenV : V → Option Nat
  | .slice _ _ l => some l.length
  | .mslice _ _ _ _ len _ => some len
  | .cslice _ _ _ len _ => some len
  | .str s => some s.length
  | _ => none

/-! ### equality -/

def leafEq : LK → V → V → Option Bool
  | .bool, .bool a, .bool b => some (a == b)
  | .int, .int k a, .int k' b => if k = k' then some (a == b) else none
  | .str, .str a, .str b => some (a == b)
  | _, _, _ => none

def flatEq : List LK → List V → List V → Option Bool
  | [], [], [] => some true
  | k :: ks, a :: as, b :: bs => match leafEq k a b, flatEq ks as bs with
    | some x, some y => some (x && y)
    | _, _ => none
  | _, _, _ => none

def isNilV : V → Option Bool
  | .slice k _ _ => some (k = .nil)
  | .mslice _ _ _ _ _ _ | .cslice _ _ _ _ _ => some false
  | _ => none

def equalV (i : TI) (a b : V) : Option Bool :=
  match i.kind, a, b with
  | .bool, .bool a, .bool b => some (a == b)
  | .int _, .int k a, .int k' b => if k = k' then some (a == b) else none
  | .str, .str a, .str b => some (a == b)
  | .ptr _, .nilptr, .nilptr => some true
  | .ptr _, .nilptr, .ptr _ _ | .ptr _, .nilptr, .el _ _ | .ptr _, .nilptr, .lst _ _ _ _ _ => some false
  | .ptr _, .ptr _ _, .nilptr | .ptr _, .el _ _, .nilptr | .ptr _, .lst _ _ _ _ _, .nilptr => some false
  | .iface, .nilIface, .nilIface => some true
  | .iface, .nilIface, .iface _ _ | .iface, .iface _ _, .nilIface => some false
  | .slice _, a, .slice .nil _ _ => isNilV a
  | .map _ _, .map r, .map none => some r.isNone
  | .func, .nilFunc, .nilFunc => some true
  | .func, .nilFunc, .func _ _ _ | .func, .func _ _ _, .nilFunc => some false
  | .struct _, .agg xs, .agg ys | .array _ _, .agg xs, .agg ys => match i.flat with
    | some ks => flatEq ks xs ys
    | none => none
  | _, _, _ => none

/-- a key that may stand in a map -/
def keyOk (i : TI) (k : V) : Bool :=
  match i.kind, k with
  | .bool, .bool _ | .int _, .int _ _ | .str, .str _ => true
  | .struct _, .agg c | .array _ _, .agg c => match i.flat with
    | some ks => (flatEq ks c c).isSome
    | none => false
  | _, _ => false

/-! ### operators -/

def bytesLt : List Nat → List Nat → Bool
  | _, [] => false
  | [], _ :: _ => true
  | a :: x, b :: y => a < b || (a == b && bytesLt x y)

def binInt (op : BinOp) (k : IntKind) (x y : Int) : Option V :=
  match op with
  | .add => some (.int k (k.wrap (x + y)))
  | .sub => some (.int k (k.wrap (x - y)))
  | .mul => some (.int k (k.wrap (x * y)))
  | .quo => if y = 0 then none else some (.int k (k.wrap (x.tdiv y)))
  | .rem => if y = 0 then none else some (.int k (x.tmod y))
  | .and => some (.int k (k.wrap (BitVec.ofInt k.bits x &&& BitVec.ofInt k.bits y).toNat))
  | .or => some (.int k (k.wrap (BitVec.ofInt k.bits x ||| BitVec.ofInt k.bits y).toNat))
  | .xor => some (.int k (k.wrap (BitVec.ofInt k.bits x ^^^ BitVec.ofInt k.bits y).toNat))
  | .andNot => some (.int k (k.wrap (BitVec.ofInt k.bits x &&& ~~~BitVec.ofInt k.bits y).toNat))
  | .eql => some (.bool (x == y))
  | .neq => some (.bool (x != y))
  | .lss => some (.bool (x < y))
  | .leq => some (.bool (x ≤ y))
  | .gtr => some (.bool (x > y))
  | .geq => some (.bool (x ≥ y))
  | _ => none

def binStr (op : BinOp) (x y : List Nat) : Option V :=
  match op with
  | .add => if x.length + y.length ≤ 2 ^ 62 then some (.str (x ++ y)) else none
  | .eql => some (.bool (x == y))
  | .neq => some (.bool (!(x == y)))
  | .lss => some (.bool (bytesLt x y))
  | .leq => some (.bool (bytesLt x y || x == y))
  | .gtr => some (.bool (!(bytesLt x y || x == y)))
  | .geq => some (.bool (!bytesLt x y))
  | _ => none

def binV (i : TI) (op : BinOp) (a b : V) : Option V :=
  match op, a, b with
  | .shl, .int k x, .int _ y => if y < 0 then none else some (.int k (k.wrap (x * 2 ^ (min y.toNat k.bits))))
  | .shr, .int k x, .int _ y => if y < 0 then none else some (.int k (x.fdiv (2 ^ (min y.toNat k.bits))))
  | op, .int k x, .int k' y => if k = k' then binInt op k x y else none
  | op, .str x, .str y => binStr op x y
  | .eql, a, b => (equalV i a b).map .bool
  | .neq, a, b => (equalV i a b).map fun e => .bool (!e)
  | _, _, _ => none

def unV (op : UnOp) : V → Option V
  | .int k n => match op with
    | .neg => some (.int k (k.wrap (0 - n)))
    | .xor => some (.int k (k.wrap (BitVec.ofInt k.bits (if k.signed then -1 else k.max) ^^^ BitVec.ofInt k.bits n).toNat))
    | _ => none
  | .bool b => if op = .not then some (.bool !b) else none
  | _ => none

/-- bytes out of a list of byte values -/
def bytesIn : List V → Option (List Nat)
  | [] => some []
  | .int .u8 n :: l => (bytesIn l).map fun r => (UInt8.ofNat n.toNat).toNat :: r
  | _ => none

def bytesOut (s : List Nat) : List V := s.map fun (b : Nat) => .int .u8 (b : Int)

/-- the elements' type -/
def sliceT : V → Option TypeId
  | .slice _ T _ | .mslice _ _ T _ _ _ | .cslice _ T _ _ _ => some T
  | _ => none

/-- a new object -/
def newOb (h : Heap) (o : Ob) : Nat × Heap := (h.length, h ++ [o])

def convV (E : Env) (h : Heap) (src dst : TypeId) (x : V) : Option (V × Heap) :=
  match E.ti src, E.ti dst with
  | some s, some d =>
    match d.kind, x with
    | .int k, .int _ n => some (.int k (k.wrap n), h)
    | .str, .str s => some (.str s, h)
    | .slice e, .str bs =>
      match E.ti e with
      | some ie => match ie.kind with
        | .int .u8 => if ie.size = 1 then some (.mslice h.length 1 e 0 bs.length none, h ++ [.list e 1 (bytesOut bs)]) else none
        | _ => none
      | none => none
    | .str, x =>
      match s.kind with
      | .slice e => match E.ti e with
        | some ie => match ie.kind with
          | .int .u8 => match elemsV h x, sliceT x with
            | some l, some T => if ie.size = 1 ∧ (T = e ∨ l.isEmpty) then (bytesIn l).map fun bs => (.str bs, h) else none
            | _, _ => none
          | _ => none
        | none => none
      | _ => none
    | _, _ => none
  | _, _ => none

/-! ### struct and array literals -/

def fillV (place : Nat → Option (Nat × Nat)) (cells : List V) : List (Nat × V) → Option (List V)
  | [] => some cells
  | (i, v) :: rest => match place i with
    | none => none
    | some (off, size) => if v.cells.length ≠ size || off + v.cells.length > cells.length then none else fillV place (spliceAt cells off v.cells) rest

def placeOf (E : Env) (k : TK) (i : Nat) : Option (Nat × Nat) :=
  match k with
  | .struct fs => (fs[i]?).bind fun (off, t) => (E.ti t).map fun j => (off, j.size)
  | .array _ e => (E.ti e).map fun j => (i * j.size, j.size)
  | _ => none

noncomputable def partsV (T : List V) : List (Nat × Operand) → Option (List (Nat × V))
  | [] => some []
  | (i, o) :: l => match evalV T o, partsV T l with
    | some v, some r => some ((i, v) :: r)
    | _, _ => none

def setAll (size : Nat) (l : List V) : List (Nat × V) → Option (List V)
  | [] => some l
  | (i, v) :: rest => if i < l.length && v.cells.length == size && v.cells.all V.one then setAll size (l.set i v) rest else none

/-! ### slices -/

def intOf? : V → Option Int
  | .int _ n => some n
  | _ => none

def boundV (x : Option V) (d : Nat) (most : Nat) : Option Nat :=
  match x with
  | none => some d
  | some v => match v with
    | .int _ n => if 0 ≤ n ∧ n ≤ most then some n.toNat else none
    | _ => none

/-- the known room behind a slice -/
def roomOf (clip : Option Nat) (n : Nat) : Nat :=
  match clip with
  | some c => min c n
  | none => n

def sliceV (E : Env) (h : Heap) (t : TypeId) (x : V) (lo hi mx : Option V) : Option V :=
  match E.ti t with
  | none => none
  | some i =>
  match i.kind, x with
  | .str, .str s =>
    if mx.isSome then none else
    match boundV hi s.length s.length with
    | some b => match boundV lo 0 b with
      | some a => some (.str ((s.drop a).take (b - a)))
      | none => none
    | none => none
  | .slice e, .slice k T l =>
    if (E.ti e).isNone || (T ≠ e && !l.isEmpty) then none else
    match boundV hi l.length l.length with
    | some b => match boundV lo 0 b with
      | some a =>
        match mx with
        | none => some (.slice (if k = .clip ∧ b = l.length then .clip else if k = .nil then .nil else .free) T ((l.drop a).take (b - a)))
        | some m => if hi.isSome ∧ boundV (some m) 0 l.length = some b then some (.slice (if k = .nil then .nil else .clip) T ((l.drop a).take (b - a))) else none
      | none => none
    | none => none
  | .slice e, .mslice g ver T off len clip =>
    if (E.ti e).isNone || T ≠ e then none else
    match h[g]? with
    | some (.list T' ver' l) =>
      if ver ≠ ver' || T ≠ T' || off + len > l.length then none else
      match boundV hi len (roomOf clip (l.length - off)) with
      | some b => match boundV lo 0 b with
        | some a => match mx with
          | none => some (.mslice g ver T (off + a) (b - a) (clip.map (· - a)))
          | some m => match boundV (some m) 0 (roomOf clip (l.length - off)) with
            | some c => if hi.isSome ∧ b ≤ c then some (.mslice g ver T (off + a) (b - a) (some (c - a))) else none
            | none => none
        | none => none
      | none => none
    | _ => none
  | .array n e, .ptr g o =>
    match E.ti e with
    | some j =>
      if j.size ≠ 1 || j.kind.isAgg then none else
      match boundV hi n n with
      | some b => match boundV lo 0 b with
        | some a => match mx with
          | none => some (.cslice g e (o + a) (b - a) (n - a))
          | some m => match boundV (some m) 0 n with
            | some c => if hi.isSome ∧ b ≤ c then some (.cslice g e (o + a) (b - a) (c - a)) else none
            | none => none
        | none => none
      | none => none
    | none => none
  | _, _ => none

/-- append: the slice, what is appended -/
def appendV (h : Heap) (T : TypeId) (s : V) (xs : List V) (bytes : Nat) : Option (V × Heap) :=
  match s with
  | .slice k T' l =>
    if xs.isEmpty then some (s, h)
    else if k = .free || (l.length + xs.length) * bytes > 2 ^ 44 then none
    else if T' ≠ T && !l.isEmpty then none
    else some (.mslice h.length 1 T 0 (l.length + xs.length) none, h ++ [.list T 1 (l ++ xs)])
  | .mslice g ver T' off len clip =>
    match h[g]? with
    | some (.list T'' ver' l) =>
      if ver ≠ ver' || T' ≠ T || T'' ≠ T || off + len > l.length || (len + xs.length) * bytes > 2 ^ 44 then none else
      if xs.isEmpty then some (s, h) else
      (match clip with
      | some c =>
        if len + xs.length ≤ c then
          if off + c ≤ l.length then some (.mslice g ver T off (len + xs.length) clip, h.set g (.list T ver (l.take (off + len) ++ xs ++ l.drop (off + len + xs.length)))) else none
        else some (.mslice h.length 1 T 0 (len + xs.length) none, h ++ [.list T 1 ((l.drop off).take len ++ xs)])
      | none =>
        if off + len + xs.length ≤ l.length then
          some (.mslice g ver T off (len + xs.length) none, h.set g (.list T ver (l.take (off + len) ++ xs ++ l.drop (off + len + xs.length))))
        else some (.mslice g (ver + 1) T 0 (len + xs.length) none, h.set g (.list T (ver + 1) ((l.drop off).take len ++ xs))))
    | _ => none
  | _ => none

/-! ### maps -/

def findV (i : TI) (k : V) : List (V × V × Nat) → Nat → Option (Option Nat)
  | [], _ => some none
  | (k', _, _) :: es, n => match equalV i k k' with
    | some true => some (some n)
    | some false => findV i k es (n + 1)
    | none => none

def lookupV (E : Env) (h : Heap) (t : TypeId) (m k : V) (ok : Bool) : Option V :=
  match E.ti t with
  | some i => match i.kind with
    | .map kt et => match E.ti kt, E.ti et with
      | some ik, some ie =>
        if !keyOk ik k then none else
        let out (v : V) (b : Bool) : V := if ok then .tuple [v, .bool b] else v
        match m with
        | .map none => some (out ie.zero false)
        | .map (some g) => match h[g]? with
          | some (.map es _) => match findV ik k es 0 with
            | some (some n) => (es[n]?).map fun e => out e.2.1 true
            | some none => some (out ie.zero false)
            | none => none
          | _ => none
        | _ => none
      | _, _ => none
    | _ => none
  | none => none

/-- the key's type's data -/
def keyTI (E : Env) (t : TypeId) : Option (TI × TI) :=
  match E.ti t with
  | some i => match i.kind with
    | .map kt et => match E.ti kt, E.ti et with
      | some ik, some ie => some (ik, ie)
      | _, _ => none
    | _ => none
  | none => none

def updateV (E : Env) (h : Heap) (t : TypeId) (m k v : V) : Option Heap :=
  match keyTI E t, m with
  | some (ik, _), .map (some g) =>
    if !keyOk ik k then none else
    match h[g]? with
    | some (.map es clock) => match findV ik k es 0 with
      | some (some n) => (es[n]?).map fun e => h.set g (.map (es.set n (k, v, e.2.2)) clock)
      | some none => some (h.set g (.map (es ++ [(k, v, clock)]) (clock + 1)))
      | none => none
    | _ => none
  | _, _ => none

def entryV (E : Env) (h : Heap) (t : TypeId) (m k : V) : Option (V × Heap) :=
  match keyTI E t, m with
  | some (ik, ie), .map (some g) =>
    if !keyOk ik k then none else
    match h[g]? with
    | some (.map es clock) => match findV ik k es 0 with
      | some (some n) => (es[n]?).map fun e => (.tuple [e.2.1, .int .i64 (e.2.2 : Int)], h.set g (.map (es.set n (k, e.2.1, e.2.2)) clock))
      | some none => some (.tuple [ie.zero, .int .i64 (clock : Int)], h.set g (.map (es ++ [(k, ie.zero, clock)]) (clock + 1)))
      | none => none
    | _ => none
  | _, _ => none

def findBorn (b : Int) : List (V × V × Nat) → Nat → Option Nat
  | [], _ => none
  | e :: es, n => if (e.2.2 : Int) == b then some n else findBorn b es (n + 1)

def entryStoreV (h : Heap) (m s v : V) : Option Heap :=
  match m, s with
  | .map (some g), .int _ b => match h[g]? with
    | some (.map es clock) => match findBorn b es 0 with
      | some n => (es[n]?).map fun e => h.set g (.map (es.set n (e.1, v, e.2.2)) clock)
      | none => none
    | _ => none
  | _, _ => none

def deleteV (E : Env) (h : Heap) (t : TypeId) (m k : V) : Option Heap :=
  match keyTI E t, m with
  | some (ik, _), .map none => if keyOk ik k then some h else none
  | some (ik, _), .map (some g) =>
    if !keyOk ik k then none else
    match h[g]? with
    | some (.map es clock) => match findV ik k es 0 with
      | some (some n) => some (h.set g (.map (es.eraseIdx n) clock))
      | some none => some h
      | none => none
    | _ => none
  | _, _ => none

/-! ### runes -/

/-- one rune of bytes, plain ones alone -/
def runeV (s : List Nat) (pos : Nat) : Option (Int × Nat) :=
  match s[pos]? with
  | some b => if b < 128 then some ((b : Int), 1) else none
  | none => none

def nextV (h : Heap) (it : V) (isString : Bool) : Option (V × Heap) :=
  match it with
  | .ptr g 0 => match h[g]?, isString with
    | some (.siter s pos), true =>
      if pos < s.length then
        match runeV s pos with
        | some (c, w) => some (.tuple [.bool true, .int .i64 (pos : Int), .int .i32 c], h.set g (.siter s (pos + w)))
        | none => none
      else some (.tuple [.bool false], h)
    | some (.miter none _ _ _), false => some (.tuple [.bool false], h)
    | some (.miter (some m) since seen stepped), false => match h[m]? with
      | some (.map es clock) =>
        if !(decide (since ≤ stepped) && es.all fun e => e.2.2 < since) then none else
        match es.filter fun e => !seen.contains e.2.2 with
        | [] => some (.tuple [.bool false], h)
        | [e] => some (.tuple [.bool true, e.1, e.2.1], h.set g (.miter (some m) since (seen ++ [e.2.2]) clock))
        | _ => none
      | _ => none
    | _, _ => none
  | _ => none

def rangeV (E : Env) (h : Heap) (t : TypeId) (x : V) : Option (V × Heap) :=
  match E.ti t with
  | some i => match i.kind, x with
    | .str, .str s => some (.ptr h.length 0, h ++ [.siter s 0])
    | .map _ _, .map none => some (.ptr h.length 0, h ++ [.miter none 0 [] 0])
    | .map _ _, .map (some m) => match h[m]? with
      | some (.map _ clock) => some (.ptr h.length 0, h ++ [.miter (some m) clock [] clock])
      | _ => none
    | _, _ => none
  | none => none

/-- the current entry again -/
def entryAgainV (h : Heap) (it : V) : Option V :=
  match it with
  | .ptr g 0 => match h[g]? with
    | some (.miter (some m) _ seen stepped) => match seen.getLast?, h[m]? with
      | some b, some (.map es clock) => if clock ≠ stepped then none else (es.find? (fun e => e.2.2 == b)).map fun e => .tuple [e.1, e.2.1]
      | _, _ => none
    | _ => none
  | _ => none

/-! ### builtins -/

def zeroElem (i : TI) : V := i.zero

def maxV (big : Bool) : List V → Option V
  | [] => none
  | .int k x :: rest => rest.foldlM (m := Option) (fun a b => match a, b with
      | .int k x, .int k' y => if k = k' then some (.int k (if big then (if y > x then y else x) else (if y < x then y else x))) else none
      | _, _ => none) (V.int k x)
  | _ => none

def isSliceV : V → Bool
  | .slice _ _ _ | .mslice _ _ _ _ _ _ | .cslice _ _ _ _ _ => true
  | _ => false

def copyTo (h : Heap) (e : TypeId) (d : V) (xs : List V) : Option Heap :=
  if xs.isEmpty then (if isSliceV d then some h else none) else
  match d with
  | .mslice g ver T' off len _ => match h[g]? with
    | some (.list T ver' l) => if ver = ver' ∧ T' = T ∧ T = e ∧ off + len ≤ l.length ∧ xs.length ≤ len then some (h.set g (.list T ver (l.take off ++ xs ++ l.drop (off + xs.length)))) else none
    | _ => none
  | .cslice g T off len _ => match h[g]? with
    | some (.cells c) => if T = e ∧ off + len ≤ c.length ∧ xs.length ≤ len ∧ xs.all V.one then some (h.set g (.cells (spliceAt c off xs))) else none
    | _ => none
  | _ => none

def builtinV (E : Env) (h : Heap) (b : Builtin) (ts : Array TypeId) (args : List V) : Option (V × Heap) :=
  match b, args with
  | .len, [x] =>
    match (ts[0]?).bind E.ti with
    | some i => match i.kind, x with
      | .str, .str s => some (.int .i64 (s.length : Int), h)
      | .slice _, .slice _ _ l => some (.int .i64 (l.length : Int), h)
      | .slice _, .mslice _ _ _ _ len _ => some (.int .i64 (len : Int), h)
      | .slice _, .cslice _ _ _ len _ => some (.int .i64 (len : Int), h)
      | .map _ _, .map none => some (.int .i64 0, h)
      | .map _ _, .map (some g) => match h[g]? with
        | some (.map es _) => some (.int .i64 (es.length : Int), h)
        | _ => none
      | .array n _, _ => some (.int .i64 (n : Int), h)
      | .ptr e, _ => match E.ti e with
        | some j => match j.kind with
          | .array n _ => some (.int .i64 (n : Int), h)
          | _ => none
        | none => none
      | _, _ => none
    | none => none
  | .cap, [.cslice _ _ _ _ c] =>
    match (ts[0]?).bind E.ti with
    | some i => match i.kind with
      | .slice _ => some (.int .i64 (c : Int), h)
      | _ => none
    | none => none
  | .append, [s, x] =>
    if !((ts[1]?).bind E.ti).any (fun i => match i.kind with | .slice _ | .str => true | _ => false) then none else
    match (ts[0]?).bind E.ti with
    | some i => match i.kind with
      | .slice e => match E.ti e with
        | some j =>
          if j.size = 0 || j.bytes = 0 then none else
          match x with
          | .str bs => match j.kind with
            | .int .u8 => if j.size = 1 then appendV h e s (bytesOut bs) j.bytes else none
            | _ => none
          | x => match elemsV h x, sliceT x with
            | some xs, some T => if T = e || xs.isEmpty then
                match s, x with
                | .mslice g ver _ _ _ _, .mslice g' _ _ _ _ _ => if g = g' then
                    -- within the room that is known alone
                    match appendV h e s xs j.bytes with
                    | some (.mslice g2 ver2 T2 o2 l2 c2, h2) => if g2 = g && ver2 = ver then some (.mslice g2 ver2 T2 o2 l2 c2, h2) else none
                    | _ => none
                  else appendV h e s xs j.bytes
                | _, _ => appendV h e s xs j.bytes
              else none
            | _, _ => none
        | none => none
      | _ => none
    | none => none
  | .copy, [d, x] =>
    match (ts[0]?).bind E.ti with
    | some i => match i.kind with
      | .slice e => match E.ti e, lenV d with
        | some j, some n =>
          if j.size = 0 then none else
          match x with
          | .str bs => (match j.kind with
            | .int .u8 => if j.size = 1 then (copyTo h e d (bytesOut (bs.take n))).map fun h' => (V.int .i64 ((bs.take n).length : Int), h') else none
            | _ => none)
          | x => match elemsV h x, sliceT x with
            | some l, some T => if T = e || l.isEmpty then (copyTo h e d (l.take n)).map fun h' => (V.int .i64 ((l.take n).length : Int), h') else none
            | _, _ => none
        | _, _ => none
      | _ => none
    | none => none
  | .min, l => (maxV false l).map (·, h)
  | .max, l => (maxV true l).map (·, h)
  | .delete, [m, k] => match ts[0]? with
    | some t => (deleteV E h t m k).map (.tuple [], ·)
    | none => none
  | .clear, [x] =>
    match (ts[0]?).bind E.ti with
    | some i => match i.kind, x with
      | .map _ _, .map none => some (.tuple [], h)
      | .map _ _, .map (some g) => match h[g]? with
        | some (.map _ clock) => some (.tuple [], h.set g (.map [] clock))
        | _ => none
      | .slice e, .mslice _ _ _ _ len _ => match E.ti e with
        | some j => if j.size = 0 || !(j.zero.cells.all V.one) then none else (copyTo h e x (List.replicate len j.zero)).map (V.tuple [], ·)
        | none => none
      | .slice _, .slice _ _ [] => some (.tuple [], h)
      | _, _ => none
    | none => none
  | _, _ => none

/-! ### operations -/

/-- how a call goes on -/
inductive Target' where
  | fn (f : FuncId) (args : List V)
  | yield (g : Nat) (args : List V)

/-- the callee of a function value -/
def targetV (f : V) (args : List V) (E : Env) : Option Target' :=
  match f with
  | .func (.func f) first captured => some (.fn f (first ++ args ++ captured))
  | .func (.methodOf t name) first _ => match first ++ args with
    | recv :: rest => (match E.ti t with
      | some i => (match i.kind with
        | .iface => none
        | _ => (E.meth t name).map fun f => .fn f (recv :: rest))
      | none => none)
    | [] => none
  | .func (.method name) first _ => match first ++ args with
    | .iface t v :: rest => (E.meth t name).map fun f => .fn f (v :: rest)
    | _ => none
  | .yield g => some (.yield g args)
  | _ => none

/-- An operation that is no call of a Go function. -/
noncomputable def opV (E : Env) (T : List V) (h : Heap) (op : Op) : Option (V × Heap) :=
  match op with
  | .move x | .assign x => (evalV T x).map (·, h)
  | .pick c a b => match evalV T c with
    | some (.bool t) => (evalV T (if t then a else b)).map (·, h)
    | _ => none
  | .alloc t => match E.ti t with
    | some i => if i.zero.cells.all V.one then some (.ptr h.length 0, h ++ [.cells i.zero.cells]) else none
    | none => none
  | .box _ x => match evalV T x with
    | some v => if v.cells.all V.one then some (.ptr h.length 0, h ++ [.cells v.cells]) else none
    | none => none
  | .build t parts => match E.ti t, partsV T parts.toList with
    | some i, some ps => if i.kind.isAgg then (fillV (placeOf E i.kind) i.zero.cells ps).map fun c => (.agg c, h) else none
    | _, _ => none
  | .buildSlice t len parts => match E.ti t, partsV T parts.toList with
    | some i, some ps => (match i.kind with
      | .slice e => match E.ti e with
        | some j => if len * j.size ≤ 2 ^ 20 && len * j.bytes ≤ 2 ^ 24 && 0 < j.size && j.zero.cells.all V.one then (setAll j.size (List.replicate len j.zero) ps).map fun l => (.mslice h.length 1 e 0 len none, h ++ [.list e 1 l]) else none
        | none => none
      | _ => none)
    | _, _ => none
  | .load t x => match E.ti t, evalV T x with
    | some i, some p => (loadV h i p).map (·, h)
    | _, _ => none
  | .store t a x => match E.ti t, evalV T a, evalV T x with
    | some i, some p, some v => (storeV h i p v).map (undefV, ·)
    | _, _, _ => none
  | .nilCheck x => match evalV T x with
    | some (.ptr g o) => some (.ptr g o, h)
    | some (.el c o) => some (.el c o, h)
    | some (.lst g ver T i o) => some (.lst g ver T i o, h)
    | some (.func (.func f) a b) => some (.func (.func f) a b, h)
    | some (.func (.methodOf t f) a b) => some (.func (.methodOf t f) a b, h)
    | some (.yield g) => some (.yield g, h)
    | some (.iface t v) => some (.iface t v, h)
    | some (.func (.method n) (.iface t v :: a) b) => if (E.meth t n).isSome then some (.func (.method n) (.iface t v :: a) b, h) else none
    | _ => none
  | .binOp op t x y _ => match E.ti t, evalV T x, evalV T y with
    | some i, some a, some b =>
      -- two nil interface values are held against each other only where one of them is the literal
      (match a, b, x, y with
      | .nilIface, .nilIface, .const _, _ | .nilIface, .nilIface, _, .const _ => (binV i op a b).map (·, h)
      | .nilIface, .nilIface, _, _ => none
      | _, _, _, _ => (binV i op a b).map (·, h))
    | _, _, _ => none
  | .unOp op _ x => match evalV T x with
    | some v => (unV op v).map (·, h)
    | none => none
  | .convert s d x => match evalV T x with
    | some v => convV E h s d v
    | none => none
  | .makeInterface t x => match E.ti t, evalV T x with
    | some i, some v => (match i.kind with
      | .iface => none
      | _ => some (.iface t v, h))
    | _, _ => none
  | .makeFunc fn first captured => match evalVs T first.toList, evalVs T captured.toList with
    | some a, some b => (match fn with
      | .func f => some (.func (.func f) a b, h)
      | .method n => some (.func (.method n) a b, h)
      | .methodOf t n => some (.func (.methodOf t n) a b, h)
      | _ => none)
    | _, _ => none
  | .makeMap _ none => some (.map (some h.length), h ++ [.map [] 0])
  | .makeMap t (some r) => match E.ti t, evalV T r with
    | some i, some (.int _ _) => (match i.kind with
      | .map _ _ => some (.map (some h.length), h ++ [.map [] 0])
      | _ => none)
    | _, _ => none
  | .makeSlice t n c => match E.ti t, evalV T n, evalV T c with
    | some i, some (.int _ a), some (.int _ b) => (match i.kind with
      | .slice e => match E.ti e with
        | some j => if a = b && 0 ≤ a && a * j.bytes ≤ 2 ^ 40 && a ≤ 2 ^ 40 && 0 < j.size && 0 < j.bytes && j.zero.cells.all V.one then some (.mslice h.length 1 e 0 a.toNat none, h ++ [.list e 1 (List.replicate a.toNat j.zero)]) else none
        | none => none
      | _ => none)
    | _, _, _ => none
  | .slice t x lo hi mx =>
    let ev (o : Option Operand) : Option (Option V) := match o with | none => some none | some o => (evalV T o).map some
    match evalV T x, ev lo, ev hi, ev mx with
    | some v, some a, some b, some c => (sliceV E h t v a b c).map (·, h)
    | _, _, _, _ => none
  | .fieldAddr s x f => match E.ti s, evalV T x with
    | some i, some p => (match i.kind with
      | .struct fs => match fs[f]? with
        | some (off, t) => match E.ti t with
          | some j => if j.size = 0 then none else (shiftV p off).map (·, h)
          | none => none
        | none => none
      | _ => none)
    | _, _ => none
  | .field t x f => match E.ti t, evalV T x with
    | some i, some (.agg c) => (match i.kind with
      | .struct fs => match fs[f]? with
        | some (off, t) => (E.ti t).bind fun j => (partV j c off).map (·, h)
        | none => none
      | _ => none)
    | _, _ => none
  | .indexAddr t x ix => match E.ti t, evalV T x, evalV T ix with
    | some i, some p, some (.int _ n) =>
      if n < 0 then none else
      let m := n.toNat
      (match i.kind with
      | .array len e => match E.ti e with
        | some j => if len ≤ m then none else (shiftV p (m * j.size)).map (·, h)
        | none => none
      | .slice e => if (E.ti e).isNone then none else (match p with
        | .slice _ T' l => if T' = e then (l[m]?).map fun x => (.el x.cells 0, h) else none
        | .mslice g ver T' off len _ => if T' = e ∧ m < len then some (.lst g ver T' (off + m) 0, h) else none
        | .cslice g T' off len _ => if T' = e ∧ m < len then some (.ptr g (off + m), h) else none
        | _ => none)
      | _ => none)
    | _, _, _ => none
  | .index t x ix => match E.ti t, evalV T x, evalV T ix with
    | some i, some v, some (.int _ n) =>
      if n < 0 then none else
      (match i.kind, v with
      | .array len e, .agg c => if len ≤ n.toNat then none else (E.ti e).bind fun j => (partV j c (n.toNat * j.size)).map (·, h)
      | .str, .str s => (s[n.toNat]?).map fun (b : Nat) => (V.int .u8 (b : Int), h)
      | _, _ => none)
    | _, _, _ => none
  | .lookup t x ix ok => match evalV T x, evalV T ix with
    | some m, some k => (lookupV E h t m k ok).map (·, h)
    | _, _ => none
  | .mapUpdate t m k x => match evalV T m, evalV T k, evalV T x with
    | some m, some k, some x => (updateV E h t m k x).map (undefV, ·)
    | _, _, _ => none
  | .mapEntry t m k => match evalV T m, evalV T k with
    | some m, some k => entryV E h t m k
    | _, _ => none
  | .entryStore _ m s x => match evalV T m, evalV T s, evalV T x with
    | some m, some s, some x => (entryStoreV h m s x).map (undefV, ·)
    | _, _, _ => none
  | .range t x => match evalV T x with
    | some v => rangeV E h t v
    | none => none
  | .next it s => match evalV T it with
    | some v => nextV h v s
    | none => none
  | .entry it => match evalV T it with
    | some v => (entryAgainV h v).map (·, h)
    | none => none
  | .extract x n => match evalV T x with
    | some (.tuple vs) => (vs[n]?).map (·, h)
    | _ => none
  | .call ⟨.builtin b, args, ts⟩ => match evalVs T args.toList with
    | some vs => builtinV E h b ts vs
    | none => none
  | _ => none

/-- the target of a call operation -/
noncomputable def callV (E : Env) (T : List V) : Op → Option Target'
  | .call ⟨.value f, args, _⟩ => match evalV T f, evalVs T args.toList with
    | some fv, some vs => targetV fv vs E
    | _, _ => none
  | .call ⟨.invoke r name, args, _⟩ => match evalV T r, evalVs T args.toList with
    | some (.iface t v), some vs => (E.meth t name).map fun f => .fn f (v :: vs)
    | _, _ => none
  | _ => none

def isCall : Op → Bool
  | .call ⟨.value _, _, _⟩ | .call ⟨.invoke _ _, _, _⟩ => true
  | _ => false

/-- what a guard has yielded -/
def yieldedV (ops : List Oper) (T : List V) (j : Nat) : Option Bool :=
  match ((ops[j]?).bind (·.dst)).bind (T[·]?) with
  | some (.bool b) => some b
  | _ => none

def wantedV (ops : List Oper) (T : List V) (o : Oper) : Bool :=
  match o.guard with
  | none => true
  | some (j, want) => yieldedV ops T j == some want

noncomputable def putV (T : List V) (d : Option Tmp) (v : V) : List V :=
  match d with
  | some d => setT T d v
  | none => T

/-- the interface of the two things that come back to themselves -/
structure Rec where
  call : Target' → Heap → Option (V × Heap)

inductive Ex where
  | normal | exit (id : Nat) | ret
  deriving DecidableEq, Inhabited

structure St where
  T : List V
  h : Heap
  deriving Inhabited

/-- one operation, guarded -/
noncomputable def stepV (E : Env) (R : Rec) (ops : List Oper) (s : St) (o : Oper) : Option St :=
  if wantedV ops s.T o then
    if isCall o.op then
      match callV E s.T o.op with
      | some t => match R.call t s.h with
        | some (v, h') => some ⟨putV s.T o.dst v, h'⟩
        | none => none
      | none => none
    else match opV E s.T s.h o.op with
      | some (v, h') => some ⟨putV s.T o.dst v, h'⟩
      | none => none
  else some ⟨putV s.T o.dst undefV, s.h⟩

noncomputable def runV (E : Env) (R : Rec) (ops : List Oper) : List Oper → St → Option St
  | [], s => some s
  | o :: l, s => match stepV E R ops s o with
    | some s' => runV E R ops l s'
    | none => none

noncomputable def runPlan (E : Env) (R : Rec) (ops : List Oper) : List Nat → St → List Heap → Option (St × List Heap)
  | [], s, hs => some (s, hs)
  | n :: l, s, hs => match ops[n]? with
    | some o => match stepV E R ops s o with
      | some s' => runPlan E R ops l s' (s'.h :: hs)
      | none => none
    | none => none

mutual
/-- equality of values, for the looks at snapshots -/
def V.same : V → V → Bool
  | .bool a, .bool b => a == b
  | .int k a, .int k' b => k == k' && a == b
  | .str a, .str b => a == b
  | .nilptr, .nilptr => true
  | .ptr g o, .ptr g' o' => g == g' && o == o'
  | .el c o, .el c' o' => V.sameL c c' && o == o'
  | .lst a b t c d, .lst a' b' t' c' d' => a == a' && b == b' && t == t' && c == c' && d == d'
  | .slice k T l, .slice k' T' l' => k == k' && T == T' && V.sameL l l'
  | .mslice g v T o n c, .mslice g' v' T' o' n' c' => g == g' && v == v' && T == T' && o == o' && n == n' && c == c'
  | .cslice g T o n c, .cslice g' T' o' n' c' => g == g' && T == T' && o == o' && n == n' && c == c'
  | .map a, .map b => a == b
  | .func f a b, .func f' a' b' => f == f' && V.sameL a a' && V.sameL b b'
  | .yield g, .yield g' => g == g'
  | .nilFunc, .nilFunc => true
  | .iface t v, .iface t' v' => t == t' && V.same v v'
  | .nilIface, .nilIface => true
  | .agg c, .agg c' => V.sameL c c'
  | .tuple c, .tuple c' => V.sameL c c'
  | _, _ => false
def V.sameL : List V → List V → Bool
  | [], [] => true
  | a :: x, b :: y => V.same a b && V.sameL x y
  | _, _ => false
end

mutual
/-- no reference in it -/
def V.pure : V → Bool
  | .bool _ | .int _ _ | .str _ | .nilptr | .nilFunc | .nilIface => true
  | .el c _ => V.pureL c
  | .slice _ _ l => V.pureL l
  | .map r => r.isNone
  | .func _ a b => V.pureL a && V.pureL b
  | .iface _ v => v.pure
  | .agg c | .tuple c => V.pureL c
  | _ => false
def V.pureL : List V → Bool
  | [] => true
  | v :: l => v.pure && V.pureL l
end

mutual
/-- its references are below n -/
def V.under (n : Nat) : V → Bool
  | .bool _ | .int _ _ | .str _ | .nilptr | .nilFunc | .nilIface => true
  | .ptr g _ | .lst g _ _ _ _ | .mslice g _ _ _ _ _ | .cslice g _ _ _ _ | .yield g => g < n
  | .map r => match r with | none => true | some g => g < n
  | .el c _ => V.underL n c
  | .slice _ _ l => V.underL n l
  | .func _ a b => V.underL n a && V.underL n b
  | .iface _ v => V.under n v
  | .agg c | .tuple c => V.underL n c
def V.underL (n : Nat) : List V → Bool
  | [] => true
  | v :: l => V.under n v && V.underL n l
end

def underE (n : Nat) : List (V × V × Nat) → Bool
  | [] => true
  | e :: l => e.1.under n && e.2.1.under n && underE n l

def Ob.under (n : Nat) : Ob → Bool
  | .cells c => V.underL n c
  | .list _ _ l => V.underL n l
  | .map es _ => underE n es
  | .siter _ _ => true
  | .miter m _ _ _ => match m with | none => true | some g => g < n
  | .loop _ _ _ T _ _ _ => V.underL n T
  | .dead => true

def underAll (n : Nat) : Heap → Bool
  | [] => true
  | o :: l => o.under n && underAll n l

def mapO {α β : Type} (f : α → Option β) : List α → Option (List β)
  | [] => some []
  | v :: l => match f v, mapO f l with
    | some x, some xs => some (x :: xs)
    | _, _ => none

/-- what is new in it, frozen (d: how deep) -/
def freeze (n : Nat) (h : Heap) : (d : Nat) → V → Option V
  | 0, v => if v.pure then some v else none
  | d + 1, v => if v.pure then some v else
      match v with
      | .slice k T l => (mapO (freeze n h d) l).map (.slice k T)
      | .mslice g ver T off len clip =>
        if g < n then some (.mslice g ver T off len clip) else
        match elemsV h (.mslice g ver T off len clip) with
        | some l => if V.pureL l then some (.slice (if clip = some len then .clip else .free) T l) else (mapO (freeze n h d) l).map (.slice (if clip = some len then .clip else .free) T)
        | none => none
      | .iface t v => (freeze n h d v).map (.iface t)
      | .agg c => (mapO (freeze n h d) c).map .agg
      | .tuple c => (mapO (freeze n h d) c).map .tuple
      | v => if v.under n then some v else none

def finish (m : Mode) (n : Nat) (v : V) (h : Heap) : Option (V × Heap) :=
  match m with
  | .keep => some (v, h)
  | .trim => match freeze n h 8 v with
    | some v' => if underAll n (h.take n) then some (v', h.take n) else none
    | none => none

/-! ### regions that draw -/

/-- looks: the operations give the same at other states -/
noncomputable def looksV (E : Env) (T : List V) (hs : List Heap) (ops : List Oper) : List (Nat × Nat) → Bool
  | [] => true
  | (n, p) :: l => (match ops[n]?, hs[p]? with
    | some o, some h => if wantedV ops T o then (match opV E T h o.op with
      | some (v, _) => match o.dst with
        | some d => match T[d]? with
          | some x => V.same v x
          | none => true
        | none => true
      | none => false) else true
    | _, _ => false) && looksV E T hs ops l

noncomputable def drawV (E : Env) (R : Rec) (p : Plan) (ops : List Oper) (s : St) : Option St :=
  match runPlan E R ops p.order s [s.h] with
  | some (s', hs) => if looksV E s'.T hs.reverse ops p.wins then some s' else none
  | none => none

/-! ### code -/

abbrev LoopF := (St → Option (Ex × St)) → St → Option (Ex × St)

/-- ro: the loop whose round this is -/
noncomputable def exec (E : Env) (R : Rec) (L : LoopF) (f : FuncId) (ro : Option Nat) : Code → St → Option (Ex × St)
  | .skip, s => some (.normal, s)
  | .region id ops draw, s =>
    if draw then
      match E.plan f id with
      | some p => (drawV E R p ops.toList s).map (.normal, ·)
      | none => none
    else (runV E R ops.toList ops.toList s).map (.normal, ·)
  | .seq a b, s => match exec E R L f ro a s with
    | some (.normal, s') => exec E R L f ro b s'
    | r => r
  | .cond c a b, s => match evalV s.T c with
    | some (.bool t) => if t then exec E R L f ro a s else exec E R L f ro b s
    | _ => none
  | .block id b, s => match exec E R L f ro b s with
    | some (.exit i, s') => if i = id then some (.normal, s') else some (.exit i, s')
    | r => r
  | .loop b, s => L (exec E R L f ro b) s
  | .exit id, s => some (.exit id, s)
  | .ret, s => some (.ret, s)
  | .rangeFunc fv params assign body, s =>
    if !(match ro with | none => true | some g => match s.h[g]? with | some (.loop _ _ _ _ _ _ _) => true | _ => false) then none else
    match evalV s.T fv with
    | some v => match targetV v [.yield s.h.length] E with
      | some (.fn f' args) => match R.call (.fn f' args) (s.h ++ [.loop .ready none f s.T params.toList assign body]) with
        | some (_, h') => match h'[s.h.length]? with
          | some (.loop st pend f' T' ps a b) =>
            if st = .busy then none else
            let h'' := h'.set s.h.length (.loop .exhausted pend f' T' ps a b)
            (match pend with
            | none => some (.normal, ⟨s.T, h''⟩)
            | some .ret => some (.ret, ⟨s.T, h''⟩)
            | some (.exit id) => some (.exit id, ⟨s.T, h''⟩)
            | _ => none)
          | _ => none
        | none => none
      | _ => none
    | none => none
  | _, _ => none

def resultV (E : Env) (T : List V) (h : Heap) : List ResultVar → Option (List V)
  | [] => some []
  | .tmp t :: l => (resultV E T h l).map (T.getD t undefV :: ·)
  | .cell a t :: l => match E.ti t with
    | some i => match loadV h i (T.getD a undefV), resultV E T h l with
      | some v, some r => some (v :: r)
      | _, _ => none
    | none => none

def tupleV : List V → V
  | [v] => v
  | l => .tuple l

noncomputable def callFn (E : Env) (R : Rec) (L : LoopF) (f : FuncId) (args : List V) (h : Heap) : Option (V × Heap) :=
  match E.fn f with
  | some fn => match fn.body with
    | some c => match exec E R L f none c ⟨args ++ List.replicate (fn.ntmps - args.length) undefV, h⟩ with
      | some (.exit _, _) => none
      | some (_, s) => match resultV E s.T s.h fn.results.toList with
        | some vs => finish (E.mode f) h.length (tupleV vs) s.h
        | none => none
      | none => none
    | none => none
  | none => none

def setParams : List V → List (Tmp × V) → List V
  | T, [] => T
  | T, (t, v) :: l => setParams (T.set t v) l

noncomputable def callYield (E : Env) (R : Rec) (L : LoopF) (g : Nat) (args : List V) (h : Heap) : Option (V × Heap) :=
  match h[g]? with
  | some (.loop _ _ f T ps assign body) =>
    if args.length ≠ ps.length then none else
    match exec E R L f (some g) assign ⟨setParams T (ps.zip args), h⟩ with
    | some (.normal, s1) => match s1.h[g]? with
      | some (.loop .ready pend f' T' ps' a' b') =>
        match exec E R L f (some g) body ⟨s1.T, s1.h.set g (.loop .busy pend f' T' ps' a' b')⟩ with
        | some (ex, s2) => match s2.h[g]? with
          | some (.loop _ _ f2 T2 ps2 a2 b2) =>
            let jump : Option Code := match ex with
              | .normal => none
              | .ret => some .ret
              | .exit id => some (.exit id)
            some (.bool jump.isNone, s2.h.set g (.loop (if jump.isNone then .ready else .done) jump f2 T2 ps2 a2 b2))
          | _ => none
        | none => none
      | _ => none
    | _ => none
  | _ => none

def loopN : Nat → LoopF
  | 0, _, _ => none
  | n + 1, b, s => match b s with
    | some (.normal, s') => loopN n b s'
    | r => r

/-- functions that are known by what they come to -/
abbrev Prims := FuncId → Option (List V → Heap → Option (V × Heap))

noncomputable def callN (E : Env) (pr : Prims) : Nat → Target' → Heap → Option (V × Heap)
  | 0, _, _ => none
  | n + 1, .fn f args, h => match (pr f).bind fun p => p args h with
    | some r => some r
    | none => callFn E ⟨callN E pr n⟩ (loopN n) f args h
  | n + 1, .yield g args, h => callYield E ⟨callN E pr n⟩ (loopN n) g args h

end Go.AM

/- AM: what a state of the abstract machine says of a world. -/
namespace Go.AM

/-- Where the objects lie. n: how many there are; phi: the block; base, cap: of a list, its first cell and its room (elements); ver: its version (0: no list); F: blocks that never change. -/
structure Gh where
  n : Nat
  phi : Nat → Nat
  base : Nat → Nat
  cap : Nat → Nat
  ver : Nat → Nat
  F : Nat → Option (Array Value)
  /-- what is known of the code of loops over functions -/
  good : FuncId → Code → Code → Prop

inductive Rel (sz : TypeId → Nat) (σ : Gh) : V → Value → Prop
  | bool (b) : Rel sz σ (.bool b) (.bool b)
  | int (k n) : Rel sz σ (.int k n) (.int k n)
  | str (s : ByteArray) : Rel sz σ (.str (bytesOf s)) (.string s)
  | nilptr : Rel sz σ .nilptr (.pointer none)
  | ptr (g off) : g < σ.n → σ.ver g = 0 → Rel sz σ (.ptr g off) (.pointer (some ⟨σ.phi g, off, none⟩))
  | el (cells : List V) (off b o : Nat) (arr : Array Value) (val : Nat → Value) : σ.F b = some arr →
      (∀ (i : Nat) (x : V), cells[i]? = some x → arr[o + i]? = some (val i) ∧ x.one = true) → (∀ (i : Nat) (x : V), cells[i]? = some x → Rel sz σ x (val i)) →
      Rel sz σ (.el cells off) (.pointer (some ⟨b, o + off, none⟩))
  | lst (g ver T idx off : Nat) (a : Addr) : g < σ.n → 0 < ver → ver ≤ σ.ver g → (ver = σ.ver g → a = ⟨σ.phi g, σ.base g + idx * sz T + off, none⟩) →
      Rel sz σ (.lst g ver T idx off) (.pointer (some a))
  | nilslice (T) : Rel sz σ (.slice .nil T []) (.slice none 0 0)
  | slice (k : SK) (T : TypeId) (l : List V) (b o cap : Nat) (arr : Array Value) (val : Nat → Nat → Value) : k ≠ .nil → (k = .clip → cap = l.length) → l.length ≤ cap →
      (∀ (i : Nat) (x : V), l[i]? = some x → σ.F b = some arr ∧ x.cells.length = sz T ∧ x.cells.all V.one = true ∧ ∀ j < sz T, arr[o + (i * sz T + j)]? = some (val i j)) →
      (∀ (i : Nat) (x : V), l[i]? = some x → ∀ (j : Nat) (y : V), x.cells[j]? = some y → Rel sz σ y (val i j)) →
      Rel sz σ (.slice k T l) (.slice (some ⟨b, o, none⟩) l.length cap)
  | mslice (g ver T off len : Nat) (clip : Option Nat) (a : Addr) (cap : Nat) : g < σ.n → 0 < ver → ver ≤ σ.ver g → len ≤ cap →
      (ver = σ.ver g → (0 < cap → a = ⟨σ.phi g, σ.base g + off * sz T, none⟩) ∧ (clip = none → off + cap = σ.cap g) ∧ ∀ c, clip = some c → cap = c ∧ off + c ≤ σ.cap g) → a.spot = none →
      Rel sz σ (.mslice g ver T off len clip) (.slice (some a) len cap)
  | cslice (g T off len cap : Nat) (a : Addr) : g < σ.n → σ.ver g = 0 → sz T = 1 → len ≤ cap → (0 < cap → a = ⟨σ.phi g, off, none⟩) →
      Rel sz σ (.cslice g T off len cap) (.slice (some a) len cap)
  | nilmap : Rel sz σ (.map none) (.map none)
  | map (g) : g < σ.n → σ.ver g = 0 → Rel sz σ (.map (some g)) (.map (some (σ.phi g)))
  | func (fn : Fn) (a b : List V) (x y : Array Value) : (∀ l, fn ≠ .yield l) → x.size = a.length → y.size = b.length →
      (∀ (i : Nat) (u : V) (v : Value), a[i]? = some u → x[i]? = some v → Rel sz σ u v) → (∀ (i : Nat) (u : V) (v : Value), b[i]? = some u → y[i]? = some v → Rel sz σ u v) →
      Rel sz σ (.func fn a b) (.func fn x y)
  | yield (g) : g < σ.n → σ.ver g = 0 → Rel sz σ (.yield g) (.func (.yield (σ.phi g)) #[] #[])
  | nilFunc : Rel sz σ .nilFunc .nilFunc
  | iface (t : TypeId) (u : V) (v : Value) : Rel sz σ u v → Rel sz σ (.iface t u) (.iface t v)
  | nilIface : Rel sz σ .nilIface .nilIface
  | agg (a : List V) (x : Array Value) : x.size = a.length → (∀ (i : Nat) (u : V) (v : Value), a[i]? = some u → x[i]? = some v → Rel sz σ u v) → Rel sz σ (.agg a) (.agg x)
  | tuple (a : List V) (x : Array Value) : x.size = a.length → (∀ (i : Nat) (u : V) (v : Value), a[i]? = some u → x[i]? = some v → Rel sz σ u v) → Rel sz σ (.tuple a) (.tuple x)

/-- Lists of values, one by one. -/
def RelA (sz : TypeId → Nat) (σ : Gh) (a : List V) (x : Array Value) : Prop :=
  x.size = a.length ∧ ∀ (i : Nat) (u : V) (v : Value), a[i]? = some u → x[i]? = some v → Rel sz σ u v

/-- Nothing that was known is lost. -/
structure Le (σ τ : Gh) : Prop where
  n : σ.n ≤ τ.n
  ver : ∀ g, g < σ.n → σ.ver g ≤ τ.ver g ∧ (σ.ver g = 0 → τ.ver g = 0) ∧ (τ.ver g = σ.ver g → τ.phi g = σ.phi g ∧ τ.base g = σ.base g ∧ τ.cap g = σ.cap g)
  F : ∀ b arr, σ.F b = some arr → τ.F b = some arr
  good : τ.good = σ.good

theorem Le.refl (σ : Gh) : Le σ σ := ⟨Nat.le_refl _, fun _ _ => ⟨Nat.le_refl _, id, fun _ => ⟨rfl, rfl, rfl⟩⟩, fun _ _ h => h, rfl⟩

theorem Le.trans {a b c : Gh} (h : Le a b) (k : Le b c) : Le a c := by
  refine ⟨Nat.le_trans h.n k.n, fun g hg => ?_, fun x arr hx => k.F x arr (h.F x arr hx), k.good.trans h.good⟩
  have h1 := h.ver g hg
  have h2 := k.ver g (Nat.lt_of_lt_of_le hg h.n)
  refine ⟨Nat.le_trans h1.1 h2.1, fun e => h2.2.1 (h1.2.1 e), fun e => ?_⟩
  have e1 : b.ver g = a.ver g := by omega
  have e2 : c.ver g = b.ver g := by omega
  obtain ⟨p1, p2, p3⟩ := h1.2.2 e1
  obtain ⟨q1, q2, q3⟩ := h2.2.2 e2
  exact ⟨q1.trans p1, q2.trans p2, q3.trans p3⟩

theorem Rel.mono {sz : TypeId → Nat} {σ τ : Gh} (h : Le σ τ) {u : V} {v : Value} (r : Rel sz σ u v) : Rel sz τ u v := by
  induction r with
  | bool b => exact .bool b
  | int k n => exact .int k n
  | str s => exact .str s
  | nilptr => exact .nilptr
  | ptr g off hg hv =>
    have := h.ver g hg
    rw [← (this.2.2 (by have := this.2.1 hv; omega)).1]
    exact .ptr g off (Nat.lt_of_lt_of_le hg h.n) (this.2.1 hv)
  | el cells off b o arr val hF h1 h2 ih => exact .el cells off b o arr val (h.F _ _ hF) h1 ih
  | lst g ver T idx off a hg h0 hv ha =>
    have := h.ver g hg
    refine .lst g ver T idx off a (Nat.lt_of_lt_of_le hg h.n) h0 (Nat.le_trans hv this.1) fun e => ?_
    have e' : ver = σ.ver g := by omega
    obtain ⟨p1, p2, _⟩ := this.2.2 (by omega)
    rw [p1, p2]; exact ha e'
  | nilslice T => exact .nilslice T
  | slice k T l b o cap arr val hk hc hl h1 h2 ih =>
    exact .slice k T l b o cap arr val hk hc hl (fun i x hx => let ⟨p, q⟩ := h1 i x hx; ⟨h.F _ _ p, q⟩) ih
  | mslice g ver T off len clip a cap hg h0 hv hl ha hs =>
    have := h.ver g hg
    refine .mslice g ver T off len clip a cap (Nat.lt_of_lt_of_le hg h.n) h0 (Nat.le_trans hv this.1) hl (fun e => ?_) hs
    have e' : ver = σ.ver g := by omega
    obtain ⟨p1, p2, p3⟩ := this.2.2 (by omega)
    rw [p1, p2, p3]; exact ha e'
  | cslice g T off len cap a hg hv hs hl ha =>
    have := h.ver g hg
    refine .cslice g T off len cap a (Nat.lt_of_lt_of_le hg h.n) (this.2.1 hv) hs hl ?_
    rw [(this.2.2 (by have := this.2.1 hv; omega)).1]; exact ha
  | nilmap => exact .nilmap
  | map g hg hv =>
    have := h.ver g hg
    rw [← (this.2.2 (by have := this.2.1 hv; omega)).1]
    exact .map g (Nat.lt_of_lt_of_le hg h.n) (this.2.1 hv)
  | func fn a b x y hf h1 h2 _ _ ih1 ih2 => exact .func fn a b x y hf h1 h2 ih1 ih2
  | yield g hg hv =>
    have := h.ver g hg
    rw [← (this.2.2 (by have := this.2.1 hv; omega)).1]
    exact .yield g (Nat.lt_of_lt_of_le hg h.n) (this.2.1 hv)
  | nilFunc => exact .nilFunc
  | iface t u v _ ih => exact .iface t u v ih
  | nilIface => exact .nilIface
  | agg a x h1 _ ih => exact .agg a x h1 ih
  | tuple a x h1 _ ih => exact .tuple a x h1 ih

theorem RelA.mono {sz : TypeId → Nat} {σ τ : Gh} (h : Le σ τ) {a : List V} {x : Array Value} (r : RelA sz σ a x) : RelA sz τ a x :=
  ⟨r.1, fun i u v h1 h2 => (r.2 i u v h1 h2).mono h⟩

theorem RelA.get {sz : TypeId → Nat} {σ : Gh} {a : List V} {x : Array Value} (r : RelA sz σ a x) {i : Nat} {u : V} (h : a[i]? = some u) : ∃ v, x[i]? = some v ∧ Rel sz σ u v := by
  have hi : i < a.length := by
    rcases Nat.lt_or_ge i a.length with h' | h'
    · exact h'
    · simp [List.getElem?_eq_none h'] at h
  have hi' : i < x.size := by rw [r.1]; exact hi
  exact ⟨x[i], Array.getElem?_eq_getElem hi', r.2 i u _ h (Array.getElem?_eq_getElem hi')⟩

theorem RelA.nil (sz : TypeId → Nat) (σ : Gh) : RelA sz σ [] #[] := ⟨rfl, fun i u v h => by simp at h⟩

theorem RelA.push {sz : TypeId → Nat} {σ : Gh} {a : List V} {x : Array Value} {u : V} {v : Value} (r : RelA sz σ a x) (h : Rel sz σ u v) : RelA sz σ (a ++ [u]) (x.push v) := by
  refine ⟨by simp [r.1], fun i p q hp hq => ?_⟩
  rw [Array.getElem?_push] at hq
  rw [List.getElem?_append] at hp
  split at hq
  · rename_i e
    have : ¬ i < a.length := by rw [e, r.1]; exact Nat.lt_irrefl _
    rw [if_neg this] at hp
    have e2 : i - a.length = 0 := by rw [e, r.1]; omega
    rw [e2] at hp
    simp at hp hq
    subst hp hq; exact h
  · rename_i e
    have : i < a.length := by
      rcases Nat.lt_or_ge i a.length with h' | h'
      · exact h'
      · exfalso
        rw [Array.getElem?_eq_none (by rw [r.1]; exact h')] at hq
        simp at hq
    rw [if_pos this] at hp
    exact r.2 i p q hp hq

theorem RelA.append {sz : TypeId → Nat} {σ : Gh} {a b : List V} {x y : Array Value} (r : RelA sz σ a x) (s : RelA sz σ b y) : RelA sz σ (a ++ b) (x ++ y) := by
  refine ⟨by simp [r.1, s.1], fun i p q hp hq => ?_⟩
  rw [Array.getElem?_append] at hq
  rw [List.getElem?_append] at hp
  rw [r.1] at hq
  split at hp
  · rename_i e; rw [if_pos e] at hq; exact r.2 i p q hp hq
  · rename_i e; rw [if_neg e] at hq; exact s.2 _ p q hp hq

/-- no cell of the row is locked -/
def noLock (arr : Array Value) (fr : Nat × Nat) : Prop := ∀ i, i < arr.size → ¬ (fr.1 ≤ i ∧ i < fr.2)

/-- What an object says of its block. -/
def RelOb (sz : TypeId → Nat) (σ : Gh) (w : World) (g : Nat) : Ob → Prop
  | .cells c => σ.ver g = 0 ∧ ∃ arr T fr, w.heap[σ.phi g]? = some (.cells arr T fr) ∧ noLock arr fr ∧ RelA sz σ c arr ∧ c.all V.one = true
  | .list T ver l => σ.ver g = ver ∧ 0 < ver ∧ 0 < sz T ∧ l.length ≤ σ.cap g ∧ ∃ arr T' fr, w.heap[σ.phi g]? = some (.cells arr T' fr) ∧ noLock arr fr ∧
      σ.base g + σ.cap g * sz T ≤ arr.size ∧ ∀ (i : Nat) (x : V), l[i]? = some x → x.cells.length = sz T ∧ x.cells.all V.one = true ∧ ∀ (j : Nat) (y : V), x.cells[j]? = some y → ∃ v, arr[σ.base g + (i * sz T + j)]? = some v ∧ Rel sz σ y v
  | .map es clock => σ.ver g = 0 ∧ ∃ es' : Array MapEntry, w.heap[σ.phi g]? = some (.map es' clock) ∧ es'.size = es.length ∧
      ∀ (i : Nat) (e : V × V × Nat) (e' : MapEntry), es[i]? = some e → es'[i]? = some e' → Rel sz σ e.1 e'.key ∧ Rel sz σ e.2.1 e'.val ∧ e.2.2 = e'.born
  | .siter s pos => σ.ver g = 0 ∧ ∃ bs, bytesOf bs = s ∧ w.heap[σ.phi g]? = some (.stringIter bs pos)
  | .miter m since seen stepped => σ.ver g = 0 ∧ (∀ x, m = some x → x < σ.n ∧ σ.ver x = 0) ∧ w.heap[σ.phi g]? = some (.mapIter (m.map σ.phi) since seen.toArray stepped)
  | .loop st pend f T ps a b => σ.ver g = 0 ∧ σ.good f a b ∧ ∃ l : Loop, w.heap[σ.phi g]? = some (.loop l) ∧ l.fn = f ∧ l.params.toList = ps ∧ l.assign = a ∧ l.body = b ∧ l.pending = pend ∧ RelA sz σ T l.tmps ∧
      l.state = (match st with | .ready => .ready | .busy => .busy | .done => .done | .exhausted => .exhausted)
  | .dead => True

def alive (h : Heap) (g : Nat) : Prop := ∃ o, h[g]? = some o ∧ ∀ _ : o = .dead, False

/-- What a state says of a world. -/
structure Inv (sz : TypeId → Nat) (σ : Gh) (w : World) (h : Heap) : Prop where
  len : h.length = σ.n
  ob : ∀ g o, h[g]? = some o → RelOb sz σ w g o
  fro : ∀ b arr, σ.F b = some arr → ∃ T fr, w.heap[b]? = some (.cells arr T fr)
  live : ∀ g, alive h g → σ.F (σ.phi g) = none ∧ σ.phi g < w.heap.size
  inj : ∀ g g', alive h g → alive h g' → σ.phi g = σ.phi g' → g = g'

def Owned (σ : Gh) (h : Heap) (b : Nat) : Prop := ∃ g, alive h g ∧ σ.phi g = b

/-- What becomes of the world: what was owned may change, new blocks may come; all else stays. -/
structure Wst (σ : Gh) (h : Heap) (w : World) (τ : Gh) (h' : Heap) (w' : World) : Prop where
  size : w.heap.size ≤ w'.heap.size
  keep : ∀ b, b < w.heap.size → ¬ Owned σ h b → w'.heap[b]? = w.heap[b]?
  own : ∀ b, b < w.heap.size → Owned τ h' b → Owned σ h b
  fro : ∀ b arr, b < w.heap.size → τ.F b = some arr → σ.F b = some arr ∨ Owned σ h b
  os : w'.os = w.os ∧ w'.output = w.output ∧ w'.tape = w.tape

theorem Wst.refl (σ : Gh) (h : Heap) (w : World) : Wst σ h w σ h w :=
  ⟨Nat.le_refl _, fun _ _ _ => rfl, fun _ _ h => h, fun _ _ _ h => .inl h, rfl, rfl, rfl⟩

theorem Wst.trans {a b c : Gh} {h1 h2 h3 : Heap} {w1 w2 w3 : World} (p : Wst a h1 w1 b h2 w2) (q : Wst b h2 w2 c h3 w3) : Wst a h1 w1 c h3 w3 := by
  refine ⟨Nat.le_trans p.size q.size, fun x hx hn => ?_, fun x hx ho => p.own x hx (q.own x (Nat.lt_of_lt_of_le hx p.size) ho), fun x arr hx hF => ?_, ?_⟩
  · rw [q.keep x (Nat.lt_of_lt_of_le hx p.size) (fun ho => hn (p.own x hx ho)), p.keep x hx hn]
  · rcases q.fro x arr (Nat.lt_of_lt_of_le hx p.size) hF with h | h
    · exact p.fro x arr hx h
    · exact .inr (p.own x hx h)
  · exact ⟨q.os.1.trans p.os.1, q.os.2.1.trans p.os.2.1, q.os.2.2.trans p.os.2.2⟩

/-- One step of both. -/
structure Post (sz : TypeId → Nat) (σ : Gh) (h : Heap) (w : World) (τ : Gh) (h' : Heap) (w' : World) : Prop where
  le : Le σ τ
  inv : Inv sz τ w' h'
  wst : Wst σ h w τ h' w'

theorem Post.trans {sz : TypeId → Nat} {a b c : Gh} {h1 h2 h3 : Heap} {w1 w2 w3 : World} (p : Post sz a h1 w1 b h2 w2) (q : Post sz b h2 w2 c h3 w3) : Post sz a h1 w1 c h3 w3 :=
  ⟨p.le.trans q.le, q.inv, p.wst.trans q.wst⟩

theorem Post.refl {sz : TypeId → Nat} {σ : Gh} {h : Heap} {w : World} (i : Inv sz σ w h) : Post sz σ h w σ h w := ⟨Le.refl σ, i, Wst.refl σ h w⟩

theorem alive_lt {h : Heap} {g : Nat} (a : alive h g) : g < h.length := by
  obtain ⟨o, ho, _⟩ := a
  rcases Nat.lt_or_ge g h.length with h' | h'
  · exact h'
  · simp [List.getElem?_eq_none h'] at ho

end Go.AM

/- AM: one change of a state, and what loads and stores do to a world. -/
namespace Go.AM
variable {sz : TypeId → Nat}

theorem RelOb.mono {σ τ : Gh} {w w' : World} {g : Nat} {o : Ob} (le : Le σ τ) (hg : g < σ.n) (hv : τ.ver g = σ.ver g)
    (hw : o ≠ .dead → w'.heap[σ.phi g]? = w.heap[σ.phi g]?) (r : RelOb sz σ w g o) : RelOb sz τ w' g o := by
  obtain ⟨e1, e2, e3⟩ := (le.ver g hg).2.2 hv
  cases o with
  | cells c =>
    obtain ⟨h0, arr, T, fr, h1, h2, h3, h4⟩ := r
    exact ⟨by rw [hv]; exact h0, arr, T, fr, by rw [e1, hw (by simp)]; exact h1, h2, h3.mono le, h4⟩
  | list T ver l =>
    obtain ⟨h0, h1, h2, h3, arr, T', fr, h4, h5, h6, h7⟩ := r
    refine ⟨by rw [hv]; exact h0, h1, h2, by rw [e3]; exact h3, arr, T', fr, by rw [e1, hw (by simp)]; exact h4, h5, by rw [e2, e3]; exact h6, fun i x hx => ?_⟩
    obtain ⟨p, q, s⟩ := h7 i x hx
    refine ⟨p, q, fun j y hy => ?_⟩
    obtain ⟨v, a, b⟩ := s j y hy
    exact ⟨v, by rw [e2]; exact a, b.mono le⟩
  | map es clock =>
    obtain ⟨h0, es', h1, h2, h3⟩ := r
    refine ⟨by rw [hv]; exact h0, es', by rw [e1, hw (by simp)]; exact h1, h2, fun i e e' p q => ?_⟩
    obtain ⟨a, b, c⟩ := h3 i e e' p q
    exact ⟨a.mono le, b.mono le, c⟩
  | siter s pos =>
    obtain ⟨h0, bs, h1, h2⟩ := r
    exact ⟨by rw [hv]; exact h0, bs, h1, by rw [e1, hw (by simp)]; exact h2⟩
  | miter m since seen stepped =>
    obtain ⟨h0, h1, h2⟩ := r
    refine ⟨by rw [hv]; exact h0, fun x hx => ⟨Nat.lt_of_lt_of_le (h1 x hx).1 le.n, (le.ver x (h1 x hx).1).2.1 (h1 x hx).2⟩, ?_⟩
    rw [e1, hw (by simp), h2]
    cases m with
    | none => rfl
    | some x =>
      have := (le.ver x (h1 x rfl).1)
      rw [Option.map_some, Option.map_some, (this.2.2 (by have := this.2.1 (h1 x rfl).2; have := (h1 x rfl).2; omega)).1]
  | loop st pend f T ps a b =>
    obtain ⟨h0, hgd, l, h1, h2, h3, h4, h5, h6, h7, h8⟩ := r
    exact ⟨by rw [hv]; exact h0, by rw [le.good]; exact hgd, l, by rw [e1, hw (by simp)]; exact h1, h2, h3, h4, h5, h6, h7.mono le, h8⟩
  | dead => trivial

theorem heap_lt {w : World} {b : Nat} {o : Obj} (h : w.heap[b]? = some o) : b < w.heap.size := by
  rcases Nat.lt_or_ge b w.heap.size with h' | h'
  · exact h'
  · simp [Array.getElem?_eq_none h'] at h

/-- The one change: an object is new, changed in its block, or laid into a new block. -/
theorem Post.change {σ τ : Gh} {h h' : Heap} {w w' : World} (inv : Inv sz σ w h) (le : Le σ τ) (g : Nat) (o : Ob)
    (hlen : h'.length = τ.n) (hg : h'[g]? = some o) (ho : o ≠ .dead) (hoth : ∀ x, x ≠ g → x < h'.length → x < h.length ∧ h'[x]? = h[x]?)
    (hver : ∀ x, x ≠ g → x < h.length → τ.ver x = σ.ver x) (hF : τ.F = σ.F)
    (hblk : (alive h g ∧ τ.phi g = σ.phi g) ∨ w.heap.size ≤ τ.phi g)
    (hw : ∀ b, b < w.heap.size → b ≠ τ.phi g → w'.heap[b]? = w.heap[b]?) (hsize : w.heap.size ≤ w'.heap.size) (hlt : τ.phi g < w'.heap.size)
    (hob : RelOb sz τ w' g o) (hos : w'.os = w.os ∧ w'.output = w.output ∧ w'.tape = w.tape) : Post sz σ h w τ h' w' := by
  have hal : ∀ x, x ≠ g → alive h' x → alive h x := fun x hx a => by
    have hl := alive_lt a
    obtain ⟨p, q⟩ := hoth x hx hl
    obtain ⟨y, hy, hd⟩ := a
    exact ⟨y, q ▸ hy, hd⟩
  have hphi : ∀ x, x ≠ g → x < h.length → τ.phi x = σ.phi x := fun x hx hl =>
    ((le.ver x (by rw [← inv.len]; exact hl)).2.2 (hver x hx hl)).1
  have hne : ∀ x, x ≠ g → alive h x → σ.phi x ≠ τ.phi g := fun x hx a e => by
    rcases hblk with ⟨ag, eg⟩ | hnew
    · exact hx (inv.inj x g a ag (e.trans eg))
    · have := (inv.live x a).2; omega
  have hFlt : ∀ b arr, σ.F b = some arr → b < w.heap.size := fun b arr hb => by
    obtain ⟨T, fr, hh⟩ := inv.fro b arr hb
    exact heap_lt hh
  have hFne : ∀ b arr, σ.F b = some arr → b ≠ τ.phi g := fun b arr hb e => by
    rcases hblk with ⟨ag, eg⟩ | hnew
    · have := (inv.live g ag).1; rw [← eg, ← e, hb] at this; simp at this
    · have := hFlt b arr hb; omega
  refine ⟨le, ⟨hlen, fun x ox hx => ?_, fun b arr hb => ?_, fun x a => ?_, fun x y ax ay e => ?_⟩, ⟨hsize, fun b hb hn => ?_, fun b hb ⟨x, ax, ex⟩ => ?_, fun b arr hb hf => .inl (hF ▸ hf), hos⟩⟩
  · by_cases e : x = g
    · subst e; rw [hg] at hx; cases hx; exact hob
    · have hl : x < h'.length := by
        rcases Nat.lt_or_ge x h'.length with h1 | h1
        · exact h1
        · simp [List.getElem?_eq_none h1] at hx
      obtain ⟨p, q⟩ := hoth x e hl
      rw [q] at hx
      refine RelOb.mono le (by rw [← inv.len]; exact p) (hver x e p) (fun hd => ?_) (inv.ob x ox hx)
      have ax : alive h x := ⟨ox, hx, fun hh => hd hh⟩
      exact hw _ (inv.live x ax).2 (hne x e ax)
  · rw [hF] at hb
    obtain ⟨T, fr, hh⟩ := inv.fro b arr hb
    exact ⟨T, fr, by rw [hw b (hFlt b arr hb) (hFne b arr hb)]; exact hh⟩
  · by_cases e : x = g
    · subst e
      refine ⟨?_, hlt⟩
      rw [hF]
      rcases hblk with ⟨ag, eg⟩ | hnew
      · rw [eg]; exact (inv.live x ag).1
      · cases hc : σ.F (τ.phi x) with
        | none => rfl
        | some arr => have := hFlt _ arr hc; omega
    · have ax := hal x e a
      rw [hphi x e (alive_lt ax), hF]
      exact ⟨(inv.live x ax).1, Nat.lt_of_lt_of_le (inv.live x ax).2 hsize⟩
  · by_cases ex : x = g
    · by_cases ey : y = g
      · rw [ex, ey]
      · exfalso
        have ayh := hal y ey ay
        rw [hphi y ey (alive_lt ayh), ex] at e
        exact hne y ey ayh e.symm
    · have axh := hal x ex ax
      by_cases ey : y = g
      · exfalso
        rw [hphi x ex (alive_lt axh), ey] at e
        exact hne x ex axh e
      · have ayh := hal y ey ay
        rw [hphi x ex (alive_lt axh), hphi y ey (alive_lt ayh)] at e
        exact inv.inj x y axh ayh e
  · refine hw b hb fun e => ?_
    rcases hblk with ⟨ag, eg⟩ | hnew
    · exact hn ⟨g, ag, eg.symm.trans e.symm⟩
    · omega
  · by_cases e : x = g
    · subst e
      rcases hblk with ⟨ag, eg⟩ | hnew
      · exact ⟨x, ag, eg.symm.trans ex⟩
      · omega
    · have axh := hal x e ax
      exact ⟨x, axh, by rw [← hphi x e (alive_lt axh)]; exact ex⟩

/-! ### new objects -/

def upd (f : Nat → Nat) (k v : Nat) : Nat → Nat := fun x => if x = k then v else f x

@[simp] theorem upd_same (f : Nat → Nat) (k v : Nat) : upd f k v k = v := by simp [upd]
theorem upd_ne (f : Nat → Nat) {k v x : Nat} (h : x ≠ k) : upd f k v x = f x := by simp [upd, h]

/-- one object more -/
def Gh.add (σ : Gh) (b ver cap : Nat) : Gh :=
  { n := σ.n + 1, phi := upd σ.phi σ.n b, base := upd σ.base σ.n 0, cap := upd σ.cap σ.n cap, ver := upd σ.ver σ.n ver, F := σ.F, good := σ.good }

theorem Gh.le_add (σ : Gh) (b ver cap : Nat) : Le σ (σ.add b ver cap) := by
  refine ⟨Nat.le_succ _, fun g hg => ?_, fun _ _ h => h, rfl⟩
  have hne : g ≠ σ.n := by omega
  simp only [Gh.add, upd_ne _ hne]
  exact ⟨Nat.le_refl _, id, fun _ => by simp⟩

theorem alloc_size (w : World) (o : Obj) : (w.alloc o).heap.size = w.heap.size + 1 := Array.size_push o
theorem alloc_new (w : World) (o : Obj) : (w.alloc o).heap[w.heap.size]? = some o := Array.getElem?_push_size
theorem alloc_old (w : World) (o : Obj) {b : Nat} (h : b < w.heap.size) : (w.alloc o).heap[b]? = w.heap[b]? := by
  show (w.heap.push o)[b]? = _
  rw [Array.getElem?_push, if_neg (Nat.ne_of_lt h)]

theorem Post.push {σ : Gh} {h : Heap} {w : World} (inv : Inv sz σ w h) (o : Ob) (o' : Obj) (ver cap : Nat) (ho : o ≠ .dead)
    (hob : RelOb sz (σ.add w.heap.size ver cap) (w.alloc o') σ.n o) :
    Post sz σ h w (σ.add w.heap.size ver cap) (h ++ [o]) (w.alloc o') := by
  have hl := inv.len
  refine Post.change inv (σ.le_add _ _ _) σ.n o (by simp [Gh.add, hl]) (by rw [← hl]; simp) ho (fun x hx hxl => ?_) (fun x hx _ => upd_ne _ hx) rfl ?_ (fun b hb _ => alloc_old w o' hb) (by rw [alloc_size]; omega)
    (by rw [alloc_size]; simp [Gh.add]) hob ⟨rfl, rfl, rfl⟩
  · have : x < h.length := by simp at hxl; omega
    exact ⟨this, List.getElem?_append_left this⟩
  · right; simp [Gh.add]

theorem relOb_cells_new {σ τ : Gh} {w : World} {c : List V} {arr : Array Value} {T : TypeId} {b ver cap : Nat} (hτ : τ = σ.add b 0 cap) (hb : b = w.heap.size)
    (r : RelA sz σ c arr) (h1 : c.all V.one = true) : RelOb sz τ (w.alloc (.cells arr T)) σ.n (.cells c) := by
  subst hτ hb
  refine ⟨by simp [Gh.add], arr, T, (0, 0), by simp only [Gh.add, upd_same]; exact alloc_new w _, fun i _ h => by omega, r.mono (σ.le_add _ _ _), h1⟩

/-! ### cells -/

structure SameBut (w w' : World) (b : Nat) : Prop where
  size : w'.heap.size = w.heap.size
  oth : ∀ x, x ≠ b → w'.heap[x]? = w.heap[x]?
  os : w'.os = w.os ∧ w'.output = w.output ∧ w'.tape = w.tape

theorem SameBut.refl (w : World) (b : Nat) : SameBut w w b := ⟨rfl, fun _ _ => rfl, rfl, rfl, rfl⟩
theorem SameBut.trans {a b c : World} {x : Nat} (p : SameBut a b x) (q : SameBut b c x) : SameBut a c x :=
  ⟨q.size.trans p.size, fun y hy => (q.oth y hy).trans (p.oth y hy), q.os.1.trans p.os.1, q.os.2.1.trans p.os.2.1, q.os.2.2.trans p.os.2.2⟩

theorem cell?_of {w : World} {b o : Nat} {arr : Array Value} {T : TypeId} {fr : Nat × Nat} (h : w.heap[b]? = some (.cells arr T fr)) : w.cell? ⟨b, o, none⟩ = arr[o]? := by
  simp [World.cell?, h]

theorem setCell_heap {w : World} {b o : Nat} {arr : Array Value} {T : TypeId} {fr : Nat × Nat} (v : Value) (h : w.heap[b]? = some (.cells arr T fr)) :
    (w.setCell ⟨b, o, none⟩ v).heap[b]? = some (.cells (arr.setIfInBounds o v) T fr) ∧ SameBut w (w.setCell ⟨b, o, none⟩ v) b := by
  refine ⟨by simp [World.setCell, Array.getElem?_modify, h], by simp [World.setCell], fun x hx => ?_, rfl, rfl, rfl⟩
  simp [World.setCell, Array.getElem?_modify, Ne.symm hx]

theorem add_none (b o i : Nat) : (Addr.add ⟨b, o, none⟩ i) = ⟨b, o + i, none⟩ := by
  unfold Addr.add
  by_cases h : i = 0
  · simp [h]
  · simp [h]

theorem run_storeCells_am (P : Program) (b o : Nat) : ∀ (vs : List Value) (i : Nat) (w : World) (arr : Array Value) (T : TypeId) (fr : Nat × Nat), w.heap[b]? = some (.cells arr T fr) → noLock arr fr →
    o + i + vs.length ≤ arr.size → (∀ v ∈ vs, v.oneCell' = true) →
    ∃ w' arr', (storeCells ⟨b, o, none⟩ vs i).run P w = .ok () w' ∧ w'.heap[b]? = some (.cells arr' T fr) ∧ SameBut w w' b ∧ arr'.size = arr.size ∧
      ∀ k, arr'[k]? = if o + i ≤ k ∧ k < o + i + vs.length then vs[k - (o + i)]? else arr[k]? := by
  intro vs
  induction vs with
  | nil =>
    intro i w arr T fr h hl hs h1
    refine ⟨w, arr, by simp [storeCells], h, SameBut.refl _ _, rfl, fun k => ?_⟩
    rw [if_neg (by simp)]
  | cons v rest ih =>
    intro i w arr T fr h hl hs h1
    have hlt : o + i < arr.size := by simp at hs; omega
    have hc : w.cell? ⟨b, o + i, none⟩ = some arr[o + i] := by rw [cell?_of h]; exact Array.getElem?_eq_getElem hlt
    have hf : w.frozen? ⟨b, o + i, none⟩ = false := by
      have := hl (o + i) hlt
      simp only [World.frozen?, h]
      obtain ⟨lo, hi⟩ := fr
      simp at this ⊢
      exact this
    obtain ⟨hs1, hs2⟩ := setCell_heap (o := o + i) v h
    obtain ⟨w', arr', p1, p2, p3, p4, p5⟩ := ih (i + 1) (w.setCell ⟨b, o + i, none⟩ v) (arr.setIfInBounds (o + i) v) T fr hs1 (fun j hj => hl j (by simpa using hj)) (by simp at hs ⊢; omega) (fun x hx => h1 x (List.mem_cons_of_mem _ hx))
    refine ⟨w', arr', ?_, p2, hs2.trans p3, by simpa using p4, fun k => ?_⟩
    · simp only [storeCells, Sem.run_bind, add_none]
      rw [run_store P w _ v _ (h1 v List.mem_cons_self), hc]
      simp only [hf, Bool.false_eq_true, if_false, Result.andThen_ok]
      exact p1
    · rw [p5 k]
      by_cases e : k = o + i
      · subst e
        rw [if_neg (by omega), if_pos (by simp)]
        simp [hlt]
      · by_cases e2 : o + (i + 1) ≤ k ∧ k < o + (i + 1) + rest.length
        · rw [if_pos e2, if_pos (by simp; omega)]
          have : k - (o + i) = (k - (o + (i + 1))) + 1 := by omega
          rw [this, List.getElem?_cons_succ]
        · rw [if_neg e2, if_neg (by simp; omega), Array.getElem?_setIfInBounds_ne (by omega)]

theorem run_loadCells_am (P : Program) {w : World} {b o n : Nat} {arr : Array Value} {T : TypeId} {fr : Nat × Nat} (h : w.heap[b]? = some (.cells arr T fr)) (hn : o + n ≤ arr.size) :
    (loadCells ⟨b, o, none⟩ n).run P w = .ok (arr.extract o (o + n)) w := by
  have h1 := run_loadCells_list (P := P) (w := w) ⟨b, o, none⟩ (arr.extract o (o + n)).toList (fun j v hj => by
    rw [add_none, cell?_of h]
    simp at hj
    obtain ⟨p, q⟩ := List.getElem?_eq_some_iff.mp hj
    simp at p q
    rw [Array.getElem?_eq_getElem (by omega)]
    simp [← q])
  have e : (arr.extract o (o + n)).toList.length = n := by simp; omega
  rw [e] at h1
  rw [h1]

end Go.AM
