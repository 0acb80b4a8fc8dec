/-
  A DETERMINISTIC PICTURE OF THE MODEL'S MEMORY (definitions). Conditions: none; this text proves nothing about a program by itself.
  A value of the picture stands for a value of the model: a slice that nobody writes any more is the plain list of its cells; a block that the
  call itself has made is a block of the picture's own heap.
-/
import Derived.WalkKit
import Derived.Orders
import Derived.Below
import Derived.Laws.StructEq
import Derived.Laws.Strings
import Derived.Laws.IdiomStrings
import Derived.Laws.Append
import Derived.Laws.MakeOwn
import Derived.Laws.BytesString
import Derived.Deep.LoopGhost
namespace Go.Ab

/-- A value of the picture. 'any' stands for whatever value. -/
inductive AV where
  | any
  | bool (b : Bool)
  | int (k : IntKind) (n : Int)
  | str (s : ByteArray)
  | nilp
  | ptr (β g off : Nat)
  | cptr (cells : List AV) (off : Nat)
  | nils
  | own (β g off len : Nat)
  | vec (n : Nat) (cells : List AV)
  | fn (f : Fn) (first captured : List AV)
  | nilf
  | iface (t : TypeId) (v : AV)
  | nili
  | agg (cells : List AV)
  | tup (vs : List AV)
instance : Inhabited AV := ⟨.any⟩

/-- A block of the picture: how often it has moved; whether there is no block of the model yet; its type, the cells of one element, its known cells; how many of its first cells are never written again. -/
structure Blk where
  gen : Nat
  virt : Bool
  elem : TypeId
  esz : Nat
  cells : List AV
  frz : Nat
instance : Inhabited Blk := ⟨⟨0, true, 0, 0, [], 0⟩⟩

abbrev Heap := List Blk

/-- A value of one cell that stands in the program's text. -/
def emb : Value → AV
  | .bool b => .bool b
  | .int k n => .int k n
  | .string s => .str s
  | .pointer none => .nilp
  | .slice none 0 0 => .nils
  | .nilFunc => .nilf
  | .nilIface => .nili
  | _ => .any

/-- A constant of the program's text. -/
def embT : Value → AV
  | .agg cs => if cs.toList.all (·.oneCell') then .agg (cs.toList.map emb) else .any
  | .tuple vs => .tup (vs.toList.map emb)
  | v => emb v

/-- What a type is, as far as the picture goes. A struct's fields: place, type. -/
inductive UD where
  | other
  | int (k : IntKind)
  | bool
  | str
  | slice (e : TypeId)
  | arr (n : Nat) (e : TypeId)
  | strct (fields : List (Nat × TypeId)) (eq : Bool)
  | ptr (e : TypeId)
  | iface
  | func
deriving DecidableEq

/-- A type: its cells, its bytes, its zero value's cells, what it is. -/
structure TI where
  size : Nat
  bytes : Nat
  zero : List AV
  und : UD
instance : Inhabited TI := ⟨⟨0, 0, [], .other⟩⟩

def UD.isAgg : UD → Bool
  | .strct .. | .arr .. => true
  | _ => false

def UD.known : UD → Bool
  | .other => false
  | _ => true

/-- What is known of a program: its types; its package-level variables; the functions; the methods of types; which results are kept as they are; the slices of a type's new variables that are appended to. -/
structure Cfg where
  ti : TypeId → TI
  glob : Nat → AV
  fns : FuncId → Option Func
  meth : TypeId → String → Option FuncId
  keep : FuncId → Bool
  virt : TypeId → List Nat

def Cfg.ut (C : Cfg) (t : TypeId) : UD := (C.ti t).und
def Cfg.sz (C : Cfg) (t : TypeId) : Nat := (C.ti t).size

/-- The state of a call: its slots and the heap. -/
structure St where
  sl : List AV
  h : Heap

def rho (C : Cfg) (sl : List AV) : Operand → AV
  | .tmp t => sl.getD t .any
  | .const v => embT v
  | .global g => C.glob g
  | .func f => .fn (.func f) [] []

def AV.cellsOf : AV → List AV
  | .agg cs => cs
  | v => [v]

/-- May the value stand in one cell? -/
def AV.one : AV → Bool
  | .any | .agg _ | .tup _ => false
  | _ => true

/-- The same of a value whose cells are to be stored. -/
def AV.storable : AV → Bool
  | .agg _ => true
  | v => v.one

/-- 'n' cells from a place on. -/
def readAt (h : Heap) (p : AV) (n : Nat) : Option (List AV) :=
  match p with
  | .ptr β g off =>
    match h[β]? with
    | some b => if b.gen = g ∧ b.virt = false ∧ off + n ≤ b.cells.length then some ((b.cells.drop off).take n) else none
    | none => none
  | .cptr cells off => if off + n ≤ cells.length then some ((cells.drop off).take n) else none
  | _ => none

/-- The cells of a slice's elements. -/
def rd (h : Heap) (esz : Nat) : AV → Option (List AV)
  | .nils => some []
  | .vec _ cells => some cells
  | .own β g off len =>
    match h[β]? with
    | some b => if b.gen = g then (if b.virt then (if len = 0 then some [] else none) else if b.esz = esz ∧ off + len * esz ≤ b.cells.length then some ((b.cells.drop off).take (len * esz)) else none) else none
    | none => none
  | _ => none

def lenOf : AV → Option Nat
  | .nils => some 0
  | .vec n _ => some n
  | .own _ _ _ n => some n
  | .str s => some s.size
  | _ => none

/-- Cells written over from a place on. -/
def over (cells : List AV) (off : Nat) (new : List AV) : List AV := cells.take off ++ new ++ cells.drop (off + new.length)

def writeAt (h : Heap) (p : AV) (new : List AV) : Option Heap :=
  match p with
  | .ptr β g off =>
    match h[β]? with
    | some b => if b.gen = g ∧ b.virt = false ∧ off + new.length ≤ b.cells.length ∧ b.frz ≤ off then some (h.set β { b with cells := over b.cells off new }) else none
    | none => none
  | _ => none

def fillA (place : Nat → Option (Nat × Nat)) (cells : List AV) : List (Nat × AV) → Option (List AV)
  | [] => some cells
  | (i, v) :: rest =>
    match place i with
    | some (off, size) => if v.cellsOf.length = size ∧ off + size ≤ cells.length ∧ v.storable then fillA place (over cells off v.cellsOf) rest else none
    | none => none

def buildA (C : Cfg) (t : TypeId) (parts : List (Nat × AV)) : Option AV :=
  match C.ut t with
  | .strct fields _ => (fillA (fun i => (fields[i]?).map fun f => (f.1, C.sz f.2)) (C.ti t).zero parts).map .agg
  | .arr n e => (fillA (fun i => if i < n then some (i * C.sz e, C.sz e) else none) (C.ti t).zero parts).map .agg
  | _ => none

/-- A part of an aggregate. -/
def partA (C : Cfg) (t : TypeId) (cs : List AV) (off : Nat) : Option AV :=
  match C.ut t with
  | .other => none
  | .strct .. | .arr .. => if off + C.sz t ≤ cs.length then some (.agg ((cs.drop off).take (C.sz t))) else none
  | _ => cs[off]?

def addOff (p : AV) (n : Nat) : Option AV :=
  match p with
  | .ptr β g off => some (.ptr β g (off + n))
  | .cptr cells off => some (.cptr cells (off + n))
  | _ => none

def intBin (op : BinOp) (k : IntKind) (a b : Int) : Option AV :=
  match op with
  | .add => some (.int k (k.wrap (a + b)))
  | .sub => some (.int k (k.wrap (a - b)))
  | .mul => some (.int k (k.wrap (a * b)))
  | .quo => if b = 0 then none else some (.int k (k.wrap (a.tdiv b)))
  | .rem => if b = 0 then none else some (.int k (a.tmod b))
  | .and => some (.int k (bits .and k a b))
  | .or => some (.int k (bits .or k a b))
  | .xor => some (.int k (bits .xor k a b))
  | .andNot => some (.int k (bits .andNot k a b))
  | .shl => if b < 0 then none else some (.int k (k.wrap (a * 2 ^ (min b.toNat k.bits))))
  | .shr => if b < 0 then none else some (.int k (a.fdiv (2 ^ (min b.toNat k.bits))))
  | .eql => some (.bool (a == b))
  | .neq => some (.bool (a != b))
  | .lss => some (.bool (decide (a < b)))
  | .leq => some (.bool (decide (a ≤ b)))
  | .gtr => some (.bool (decide (a > b)))
  | .geq => some (.bool (decide (a ≥ b)))

def strBin (op : BinOp) (a b : ByteArray) : Option AV :=
  match op with
  | .add => if a.size + b.size ≤ 9223372036854775807 then some (.str (a ++ b)) else none
  | .eql => some (.bool (a.toList == b.toList))
  | .neq => some (.bool (!(a.toList == b.toList)))
  | _ => none

/-- Equality of plain values of one type. 'd' bounds the nesting. -/
def eqA (C : Cfg) : Nat → TypeId → AV → AV → Option Bool
  | 0, _, _, _ => none
  | d + 1, t, x, y =>
    match C.ut t, x, y with
    | .bool, .bool a, .bool b => some (a == b)
    | .int _, .int k a, .int k' b => if k = k' then some (a == b) else none
    | .str, .str a, .str b => some (a.toList == b.toList)
    | .strct fields true, .agg xs, .agg ys =>
      fields.foldr (fun f r => match partA C f.2 xs f.1, partA C f.2 ys f.1 with
        | some u, some v => match eqA C d f.2 u v with
          | some true => r
          | some false => some false
          | none => none
        | _, _ => none) (some true)
    | _, _, _ => none

def isShift : BinOp → Bool
  | .shl | .shr => true
  | _ => false

def binA (C : Cfg) (op : BinOp) (t : TypeId) (x y : AV) : Option AV :=
  match x, y with
  | .int k a, .int k' b => if isShift op = true ∨ k = k' then intBin op k a b else none
  | .str a, .str b => strBin op a b
  | .bool a, .bool b => match op with
    | .eql => if C.ut t = .bool then some (.bool (a == b)) else none
    | .neq => if C.ut t = .bool then some (.bool (a != b)) else none
    | _ => none
  | .agg xs, .agg ys => match op with
    | .eql => (eqA C 4 t (.agg xs) (.agg ys)).map .bool
    | .neq => (eqA C 4 t (.agg xs) (.agg ys)).map fun b => .bool (!b)
    | _ => none
  | _, _ => none

def unA (op : UnOp) (x : AV) : Option AV :=
  match op, x with
  | .neg, .int k n => some (.int k (k.wrap (0 - n)))
  | .not, .bool b => some (.bool (!b))
  | _, _ => none

def boundA (x : Option AV) (dflt most : Nat) : Option Nat :=
  match x with
  | none => some dflt
  | some (.int _ i) => if 0 ≤ i ∧ i ≤ (most : Int) then some i.toNat else none
  | some _ => none

def sliceA (C : Cfg) (t : TypeId) (x : AV) (lo hi : Option AV) : Option AV :=
  match C.ut t, x with
  | .str, .str s => do
    let b ← boundA hi s.size s.size
    let a ← boundA lo 0 b
    some (.str (s.extract a b))
  | .slice e, .vec n cells => do
    let b ← boundA hi n n
    let a ← boundA lo 0 b
    some (.vec (b - a) ((cells.drop (a * C.sz e)).take ((b - a) * C.sz e)))
  | .slice e, .own β g off n => do
    let b ← boundA hi n n
    let a ← boundA lo 0 b
    if a = 0 then some (.own β g off b)
    else if a < b ∧ 0 < C.sz e then some (.own β g (off + a * C.sz e) (b - a))
    else if a = b then some (.vec 0 []) else none
  | .slice _, .nils => do
    let b ← boundA hi 0 0
    let _ ← boundA lo 0 b
    some .nils
  | _, _ => none

def minA : List AV → Option AV
  | [.int k a, .int _ b] => some (.int k (if b < a then b else a))
  | _ => none
def maxA : List AV → Option AV
  | [.int k a, .int _ b] => some (.int k (if b > a then b else a))
  | _ => none

def lenA (C : Cfg) (t : TypeId) (x : AV) : Option AV :=
  match C.ut t, x with
  | .str, .str s => some (.int .i64 s.size)
  | .slice _, .nils => some (.int .i64 0)
  | .slice _, .vec n _ => some (.int .i64 n)
  | .slice _, .own _ _ _ n => some (.int .i64 n)
  | .arr n _, _ => some (.int .i64 n)
  | _, _ => none

def capA (C : Cfg) (t : TypeId) (x : AV) : Option AV :=
  match C.ut t, x with
  | .slice _, .nils => some (.int .i64 0)
  | _, _ => none

/-- Built-in functions of values. -/
def callPureA (C : Cfg) (ρ : Operand → AV) (c : Call) : Option AV :=
  match c.callee with
  | .builtin .len => match c.args.toList, c.argTypes.toList with
    | [x], [t] => lenA C t (ρ x)
    | _, _ => none
  | .builtin .cap => match c.args.toList, c.argTypes.toList with
    | [x], [t] => capA C t (ρ x)
    | _, _ => none
  | .builtin .min => match c.args.toList with
    | [x, y] => minA [ρ x, ρ y]
    | _ => none
  | .builtin .max => match c.args.toList with
    | [x, y] => maxA [ρ x, ρ y]
    | _ => none
  | _ => none

/-- Operations that do not look at the picture's heap. -/
def pureA (C : Cfg) (ρ : Operand → AV) (o : Op) : Option AV :=
  match o with
  | .move x | .assign x => some (ρ x)
  | .pick c a b => match ρ c with
    | .bool t => some (if t then ρ a else ρ b)
    | _ => none
  | .build t parts => buildA C t (parts.toList.map fun p => (p.1, ρ p.2))
  | .nilCheck x => match ρ x with
    | .ptr β g off => some (.ptr β g off)
    | .cptr cells off => some (.cptr cells off)
    | .fn (.func f) a b => some (.fn (.func f) a b)
    | _ => none
  | .binOp op t x y _ => binA C op t (ρ x) (ρ y)
  | .unOp op _ x => unA op (ρ x)
  | .convert s d x => match C.ut s, C.ut d, ρ x with
    | .int _, .int k, .int _ n => some (.int k (k.wrap n))
    | .str, .str, .str b => some (.str b)
    | .str, .slice e, .str b => if C.ut e = .int .u8 then some (.vec b.size (b.toList.map fun c => .int .u8 c.toNat)) else none
    | _, _, _ => none
  | .makeInterface t x => match C.ut t with
    | .iface => none
    | .other => none
    | _ => some (.iface t (ρ x))
  | .makeFunc f first captured => some (.fn f (first.toList.map ρ) (captured.toList.map ρ))
  | .slice t x lo hi none => sliceA C t (ρ x) (lo.map ρ) (hi.map ρ)
  | .fieldAddr t x f => match C.ut t with
    | .strct fields _ => match fields[f]? with
      | some fd => if C.sz fd.2 = 0 then none else addOff (ρ x) fd.1
      | none => none
    | _ => none
  | .field t x f => match C.ut t, ρ x with
    | .strct fields _, .agg cs => match fields[f]? with
      | some fd => partA C fd.2 cs fd.1
      | none => none
    | _, _ => none
  | .indexAddr t x i => match C.ut t, ρ i with
    | .slice e, .int _ n => match ρ x with
      | .own β g off len => if 0 ≤ n ∧ n < (len : Int) then some (.ptr β g (off + n.toNat * C.sz e)) else none
      | .vec len cells => if 0 ≤ n ∧ n < (len : Int) then some (.cptr cells (n.toNat * C.sz e)) else none
      | _ => none
    | .arr m e, .int _ n => if 0 ≤ n ∧ n < (m : Int) then addOff (ρ x) (n.toNat * C.sz e) else none
    | _, _ => none
  | .index t x i => match C.ut t, ρ x, ρ i with
    | .str, .str s, .int _ n => if 0 ≤ n then (match s[n.toNat]? with
        | some b => some (.int .u8 b.toNat)
        | none => none) else none
    | .arr m e, .agg cs, .int _ n => if 0 ≤ n ∧ n < (m : Int) then partA C e cs (n.toNat * C.sz e) else none
    | _, _, _ => none
  | .extract t i => match ρ t with
    | .tup vs => vs[i]?
    | _ => none
  | .call c => callPureA C ρ c
  | _ => none

def bytesA : List AV → Option (List UInt8)
  | [] => some []
  | .int .u8 n :: r => (bytesA r).map (UInt8.ofNat n.toNat :: ·)
  | _ => none

def loadA (C : Cfg) (h : Heap) (t : TypeId) (p : AV) : Option AV :=
  if (C.ut t).isAgg then (readAt h p (C.sz t)).map .agg
  else if (C.ut t).known then (match readAt h p 1 with
    | some [v] => some v
    | _ => none) else none

/-- Operations that look at the picture's heap and leave it. -/
def readA (C : Cfg) (ρ : Operand → AV) (h : Heap) (o : Op) : Option AV :=
  match o with
  | .load t x => loadA C h t (ρ x)
  | .convert s d x => match C.ut s, C.ut d with
    | .slice e, .str => if C.ut e = .int .u8 then (match rd h 1 (ρ x), lenOf (ρ x) with
        | some cells, some m => if cells.length = m then (bytesA cells).map fun l => .str ⟨l.toArray⟩ else none
        | _, _ => none) else none
    | _, _ => none
  | _ => none

/-- A new variable of a type: the slices that are appended to get blocks of their own, which the model does not have yet. -/
def virts (C : Cfg) : List Nat → Heap → List AV → Option (Heap × List AV)
  | [], h, cs => some (h, cs)
  | off :: rest, h, cs => match cs[off]? with
    | some .nils => virts C rest (h ++ [⟨0, true, 0, 0, [], 0⟩]) (cs.set off (.own h.length 0 0 0))
    | some _ => virts C rest h cs
    | none => none

def newVarA (C : Cfg) (t : TypeId) (h : Heap) (cs : List AV) : Option (AV × Heap) :=
  if cs.length = C.sz t then
    match virts C (C.virt t) h cs with
    | some (h', cs') => some (.ptr h'.length 0 0, h' ++ [⟨0, false, t, C.sz t, cs', 0⟩])
    | none => none
  else none

def appendA (C : Cfg) (e : TypeId) (h : Heap) (base src : AV) : Option (AV × Heap) :=
  match rd h (C.sz e) src, lenOf src with
  | some new, some m =>
    if new.length = m * C.sz e ∧ 0 < C.sz e then
      match base with
      | .nils =>
        if m = 0 then some (.nils, h)
        else if m ≤ maxLen ∧ m * (C.ti e).bytes ≤ 140737488355328 then some (.own h.length 0 0 m, h ++ [⟨0, false, e, C.sz e, new, 0⟩])
        else none
      | .own β g off len =>
        match h[β]? with
        | some b =>
          if b.gen = g ∧ off = 0 ∧ (len + m ≤ maxLen ∧ (len + m) * (C.ti e).bytes ≤ 140737488355328) then
            if m = 0 then some (base, h)
            else if b.virt then (if len = 0 then some (.own β (g + 1) 0 m, h.set β ⟨g + 1, false, e, C.sz e, new, b.frz⟩) else none)
            else if b.elem = e ∧ b.esz = C.sz e ∧ len * C.sz e ≤ b.cells.length ∧ b.frz ≤ len * C.sz e then
              if (len + m) * C.sz e ≤ b.cells.length then some (.own β g 0 (len + m), h.set β { b with cells := over b.cells (len * C.sz e) new })
              else some (.own β (g + 1) 0 (len + m), h.set β ⟨g + 1, false, e, C.sz e, b.cells.take (len * C.sz e) ++ new, b.frz⟩)
            else none
          else none
        | none => none
      | .vec n cells => if m = 0 then some (.vec n cells, h) else none
      | _ => none
    else none
  | _, _ => none

/-- A block that is given up. -/
def deadB (b : Blk) : Blk := ⟨b.gen + 1, true, 0, 0, [], 0⟩

def AV.isInt : AV → Bool
  | .int _ _ => true
  | _ => false

/-- Operations that may turn the picture's heap (calls of the program's functions apart). -/
def effA (C : Cfg) (ρ : Operand → AV) (h : Heap) (o : Op) : Option (AV × Heap) :=
  match o with
  | .alloc t => if (C.ut t).known then newVarA C t h (C.ti t).zero else none
  | .box t x => if (ρ x).storable then newVarA C t h (ρ x).cellsOf else none
  | .buildSlice t len parts => match C.ut t with
    | .slice e => if len * C.sz e ≤ 16777216 ∧ 0 < C.sz e then (match fillA (fun i => if i < len then some (i * C.sz e, C.sz e) else none) ((List.replicate len (C.ti e).zero).flatten) (parts.toList.map fun p => (p.1, ρ p.2)) with
        | some cells => if cells.length = len * C.sz e ∧ len ≤ maxLen then some (.own h.length 0 0 len, h ++ [⟨0, false, e, C.sz e, cells, 0⟩]) else none
        | none => none) else none
    | _ => none
  | .makeSlice t l c => match C.ut t, ρ l, ρ c with
    | .slice e, .int _ n, .int _ m => if n = m ∧ 0 ≤ n ∧ (C.ti e).bytes * n ≤ 281474976710656 ∧ n ≤ (maxLen : Int) ∧ 0 < C.sz e ∧ (C.ti e).zero.length = C.sz e then
        some (.own h.length 0 0 n.toNat, h ++ [⟨0, false, e, C.sz e, (List.replicate n.toNat (C.ti e).zero).flatten, 0⟩]) else none
    | _, _, _ => none
  | .store t p x => if (ρ x).storable = true ∧ (ρ x).cellsOf.length = C.sz t ∧ (C.ut t).known = true then (writeAt h (ρ p) (ρ x).cellsOf).map fun h' => (.any, h') else none
  | .convert s d x => match C.ut s, ρ x with
    | .slice e, .own β g 0 len => if s = d ∧ C.ut e = .int .u8 then (match h[β]? with
        | some b => if b.gen = g ∧ b.virt = false ∧ len ≤ b.cells.length ∧ b.cells.all AV.isInt = true then some (.vec len (b.cells.take len), h.set β (deadB b)) else none
        | none => none) else none
    | _, _ => none
  | .call c => match c.callee with
    | .builtin .append => match c.args.toList, c.argTypes.toList with
      | [b, x], [t, u] => match C.ut t with
        | .slice e => if t = u then appendA C e h (ρ b) (ρ x) else none
        | _ => none
      | _, _ => none
    | _ => none
  | _ => none

/-- An operation that is no call of a function of the program. -/
def plainA (C : Cfg) (ρ : Operand → AV) (h : Heap) (o : Op) : Option (AV × Heap) :=
  match pureA C ρ o with
  | some x => some (x, h)
  | none => match readA C ρ h o with
    | some x => some (x, h)
    | none => effA C ρ h o

/-- The function that a call calls, and its arguments. -/
def targetA (C : Cfg) (ρ : Operand → AV) (c : Call) : Option (FuncId × List AV) :=
  match c.callee with
  | .value f => match ρ f with
    | .fn (.func id) first captured => some (id, first ++ c.args.toList.map ρ ++ captured)
    | _ => none
  | .invoke recv name => match ρ recv with
    | .iface t v => match C.meth t name with
      | some id => some (id, v :: c.args.toList.map ρ)
      | none => none
    | _ => none
  | .builtin _ => none

def hasBody (C : Cfg) (f : FuncId) : Bool :=
  match C.fns f with
  | some fn => fn.body.isSome
  | none => false

/-- Is an operation carried out? -/
def wantA (ops : Array Oper) (sl : List AV) (o : Oper) : Option Bool :=
  match o.guard with
  | none => some true
  | some (j, want) => match (ops[j]?).bind (·.dst) with
    | some d => match sl.getD d .any with
      | .bool b => some (b == want)
      | .tup [] => some false
      | _ => none
    | none => none

/-- What a call hands back. -/
def resA1 (C : Cfg) (sl : List AV) (h : Heap) : ResultVar → Option AV
  | .tmp t => some (sl.getD t .any)
  | .cell a t => loadA C h t (sl.getD a .any)

def resAs (C : Cfg) (sl : List AV) (h : Heap) : List ResultVar → Option (List AV)
  | [] => some []
  | r :: rest => match resA1 C sl h r, resAs C sl h rest with
    | some x, some xs => some (x :: xs)
    | _, _ => none

def resA (C : Cfg) (rs : Array ResultVar) (sl : List AV) (h : Heap) : Option AV :=
  match resAs C sl h rs.toList with
  | some [x] => some x
  | some xs => some (.tup xs)
  | none => none

end Go.Ab
