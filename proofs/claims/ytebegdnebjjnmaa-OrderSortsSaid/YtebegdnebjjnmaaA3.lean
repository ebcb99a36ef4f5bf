
/- The abstract machine, 3: what an operation does to values without addresses. No condition. -/
import Derived.Test.YtebegdnebjjnmaaA2
set_option linter.unusedVariables false
set_option linter.unusedSimpArgs false
namespace Go.Proofs.Ytebegdnebjjnmaa.AM
open Go Go.RowKit

/-! ### types, in short -/
/-- Has a type one cell (none), or is it a struct or an array of so many cells? -/
def tAgg (P : Program) (t : TypeId) : Option (Option Nat) :=
  match P.underlying t, P.info? t with
  | some (.struct _), some i => some (some i.size)
  | some (.array _ _), some i => some (some i.size)
  | some _, some i => some none
  | _, _ => none
def tSize (P : Program) (t : TypeId) : Option Nat := (P.info? t).map (·.size)
structure Elem where
  T : TypeId
  sz : Nat
  bytes : Nat
  zero : Value
/-- A slice type's element. -/
def tElem (P : Program) (t : TypeId) : Option Elem :=
  match P.underlying t with
  | some (.slice e) => (P.info? e).bind fun i => i.zero.bind fun z => if z.cells.size = i.size ∧ 0 < i.size ∧ 0 < i.bytes then some ⟨e, i.size, i.bytes, z⟩ else none
  | _ => none
def tZero (P : Program) (t : TypeId) : Option Value := (P.info? t).bind (·.zero)
/-- Field number f of a struct type: its offset and its type. -/
def tField (P : Program) (t : TypeId) (f : Nat) : Option (Nat × TypeId) :=
  match P.underlying t with
  | some (.struct fs) => (fs[f]?).bind fun d => (P.info? d.type).bind fun i => if i.size = 0 then none else some (d.offset, d.type)
  | _ => none
def placesOf (P : Program) : List Field → Option (List (Nat × Nat))
  | [] => some []
  | f :: l => (P.info? f.type).bind fun i => (placesOf P l).map fun r => (f.offset, i.size) :: r
/-- A struct type's fields: offsets and cells. -/
def tPlaces (P : Program) (t : TypeId) : Option (List (Nat × Nat)) :=
  match P.underlying t with
  | some (.struct fs) => placesOf P fs.toList
  | _ => none
/-- An array type: its length, and its elements' cells. -/
def tArr (P : Program) (t : TypeId) : Option (Nat × TypeId × Nat) :=
  match P.underlying t with
  | some (.array n e) => (P.info? e).bind fun i => if 1 < n then some (n, e, i.size) else none
  | _ => none
inductive Kd where | bool | int (k : IntKind) | str | ptr | slc | map | oth
def tKind (P : Program) (t : TypeId) : Option Kd :=
  match P.underlying t with
  | some .bool => some .bool
  | some (.int k) => some (.int k)
  | some .string => some .str
  | some (.pointer _) => some .ptr
  | some (.slice _) => some .slc
  | some (.map _ _) => some .map
  | some _ => some .oth
  | none => none

/-! ### constants -/
def constCell : Value → AV
  | .bool b => .iv (.bool b)
  | .int k n => .iv (.int k n)
  | .string s => .iv (.str s)
  | .pointer none => .iv .nilp
  | .slice none 0 0 => .nilsl
  | _ => .any
def ivs : List AV → Option (List IV)
  | [] => some []
  | .iv x :: l => (ivs l).map (x :: ·)
  | _ :: _ => none
def mkAgg (cs : List AV) : AV := match ivs cs with
  | some l => .iv (.agg l)
  | none => .agg cs
def constAV : Value → AV
  | .agg cs => mkAgg (cs.toList.map constCell)
  | v => constCell v
def constIVcell : Value → Option IV
  | .bool b => some (.bool b)
  | .int k n => some (.int k n)
  | .string s => some (.str s)
  | .pointer none => some .nilp
  | .slice none 0 0 => some (.sl 0 [])
  | _ => none
def constIV : Value → Option IV
  | .agg cs => (cs.toList.mapM constIVcell).map .agg
  | v => constIVcell v

/-- A value's cells. -/
def AV.cells : AV → Option (List AV)
  | .iv (.agg cs) => some (cs.map .iv)
  | .agg cs => some cs
  | .iv (.tup _) => none
  | .any => none
  | .tup _ => none
  | x => some [x]

def AV.one : AV → Bool
  | .iv x => x.one
  | .any => false
  | .agg _ => false
  | .tup _ => false
  | _ => true

/-! ### numbers -/
def bitI (op : BinOp) (k : IntKind) (a b : Int) : Int :=
  match op with
  | .and => k.wrap (BitVec.ofInt k.bits a &&& BitVec.ofInt k.bits b).toNat
  | .or => k.wrap (BitVec.ofInt k.bits a ||| BitVec.ofInt k.bits b).toNat
  | .xor => k.wrap (BitVec.ofInt k.bits a ^^^ BitVec.ofInt k.bits b).toNat
  | _ => k.wrap (BitVec.ofInt k.bits a &&& ~~~ BitVec.ofInt k.bits b).toNat
def numBin (op : BinOp) (k : IntKind) (a b : Int) : Option IV :=
  match op with
  | .add => some (.int k (k.wrap (a + b)))
  | .sub => some (.int k (k.wrap (a - b)))
  | .mul => some (.int k (k.wrap (a * b)))
  | .quo => if b = 0 then none else some (.int k (k.wrap (a.tdiv b)))
  | .rem => if b = 0 then none else some (.int k (a.tmod b))
  | .and => some (.int k (bitI .and k a b))
  | .or => some (.int k (bitI .or k a b))
  | .xor => some (.int k (bitI .xor k a b))
  | .andNot => some (.int k (bitI .andNot k a b))
  | .eql => some (.bool (a == b))
  | .neq => some (.bool (a != b))
  | .lss => some (.bool (decide (a < b)))
  | .leq => some (.bool (decide (a ≤ b)))
  | .gtr => some (.bool (decide (a > b)))
  | .geq => some (.bool (decide (a ≥ b)))
  | _ => none
def shiftI (op : BinOp) (k : IntKind) (a b : Int) : Option IV :=
  if b < 0 then none else
    match op with
    | .shl => some (.int k (k.wrap (a * 2 ^ (min b.toNat k.bits))))
    | .shr => some (.int k (a.fdiv (2 ^ (min b.toNat k.bits))))
    | _ => none
def strBin (op : BinOp) (x y : ByteArray) : Option IV :=
  match op with
  | .add => if x.size + y.size ≤ 9223372036854775807 then some (.str (x ++ y)) else none
  | .eql => some (.bool (x.toList == y.toList))
  | .neq => some (.bool (!(x.toList == y.toList)))
  | .lss => some (.bool (Op.bytesLess x.toList y.toList))
  | .leq => some (.bool (Op.bytesLess x.toList y.toList || x.toList == y.toList))
  | .gtr => some (.bool (!(Op.bytesLess x.toList y.toList || x.toList == y.toList)))
  | .geq => some (.bool (!(Op.bytesLess x.toList y.toList)))
  | _ => none
def isShift : BinOp → Bool | .shl => true | .shr => true | _ => false
def binAV (P : Program) (op : BinOp) (t : TypeId) (x y : AV) : Option IV :=
  match x, y with
  | .iv (.int k a), .iv (.int k' b) => if isShift op then shiftI op k a b else if k = k' then numBin op k a b else none
  | .iv (.str a), .iv (.str b) => strBin op a b
  | .iv (.bool a), .iv (.bool b) =>
    match tKind P t, op with
    | some .bool, .eql => some (.bool (a == b))
    | some .bool, .neq => some (.bool (!(a == b)))
    | _, _ => none
  | .mp _ _, .iv .nilp =>
    match tKind P t, op with
    | some .ptr, .eql => some (.bool false)
    | some .ptr, .neq => some (.bool true)
    | _, _ => none
  | .iv .nilp, .iv .nilp =>
    match tKind P t, op with
    | some .ptr, .eql => some (.bool true)
    | some .ptr, .neq => some (.bool false)
    | _, _ => none
  | _, _ => none
def unAV (op : UnOp) (x : AV) : Option IV :=
  match op, x with
  | .not, .iv (.bool b) => some (.bool (!b))
  | .neg, .iv (.int k n) => some (.int k (k.wrap (0 - n)))
  | .xor, .iv (.int k n) => some (.int k (bitI .xor k (if k.signed then -1 else k.max) n))
  | _, _ => none

/-! ### memory -/
/-- A row by its object: its element type, cells, elements; the length must be the one that the slice was told with. -/
def rowAt (M : List MO) (k n : Nat) : Option (Bool × TypeId × Nat × List IV) :=
  match M[k]? with
  | some (.row m T sz xs) => if n = xs.length then some (m, T, sz, xs) else none
  | _ => none
/-- Cells c .. of an element. -/
def elemPart (ag : Option Nat) (x : IV) (c : Nat) : Option IV :=
  match ag with
  | none => x.cells[c]?
  | some n => if c + n ≤ x.cells.length then some (.agg ((x.cells.drop c).take n)) else none
def varPart (ag : Option Nat) (cs : List AV) (off : Nat) : Option AV :=
  match ag with
  | none => cs[off]?
  | some n => if off + n ≤ cs.length then some (mkAgg ((cs.drop off).take n)) else none
def setCells {α : Type} (cs : List α) (off : Nat) : List α → List α
  | [x] => cs.set off x
  | xs => cs.take off ++ xs ++ cs.drop (off + xs.length)
/-- A value as one without memory: rows of the call's own that it names are frozen. -/
def cellF (M : List MO) : AV → Option (IV × List MO)
  | .iv (.agg _) => none
  | .iv (.tup _) => none
  | .iv x => some (x, M)
  | .nilsl => some (.sl 0 [], M)
  | .msl k off len n => (rowAt M k n).bind fun (_, T, sz, xs) => if off + len ≤ n then some (.sl sz ((xs.drop off).take len), M.set k (.row false T sz xs)) else none
  | _ => none
def cellsF (M : List MO) : List AV → Option (List IV × List MO)
  | [] => some ([], M)
  | x :: l => (cellF M x).bind fun (y, M') => (cellsF M' l).map fun (ys, M'') => (y :: ys, M'')
def toIVF (M : List MO) : AV → Option (IV × List MO)
  | .iv (.tup _) => none
  | .iv x => some (x, M)
  | .agg cs => (cellsF M cs).map fun (ys, M') => (.agg ys, M')
  | x => cellF M x
/-- The index of a value. -/
def idx : AV → Option Int
  | .iv (.int _ j) => some j
  | _ => none
/-- A slice's bounds. -/
def bound (x : Option AV) (dflt : Nat) : Option Int := match x with
  | none => some dflt
  | some v => idx v
def sliceAV (P : Program) (t : TypeId) (M : List MO) (x : AV) (lo hi mx : Option AV) : Option AV :=
  match x with
  | .iv (.str s) =>
    if tKind P t matches some .str then
      match mx with
      | some _ => none
      | none => (bound lo 0).bind fun l => (bound hi s.size).bind fun h => if 0 ≤ l ∧ l ≤ h ∧ h ≤ s.size then some (.iv (.str (s.extract l.toNat h.toNat))) else none
    else none
  | .iv (.sl sz xs) =>
    (tElem P t).bind fun e => (bound lo 0).bind fun l => (bound hi xs.length).bind fun h =>
      match mx with
      | none => if (sz = e.sz ∨ xs = []) ∧ 0 ≤ l ∧ l ≤ h ∧ h ≤ xs.length then some (.iv (.sl sz ((xs.drop l.toNat).take (h.toNat - l.toNat)))) else none
      | some m => (idx m).bind fun m =>
        if (sz = e.sz ∨ xs = []) ∧ 0 ≤ l ∧ l ≤ h ∧ h ≤ m ∧ m ≤ xs.length then some (if m = l then .nilsl else .iv (.sl sz ((xs.drop l.toNat).take (h.toNat - l.toNat)))) else none
  | .msl k off len n =>
    (tElem P t).bind fun e => (rowAt M k n).bind fun (_, _, sz, _) => (bound lo 0).bind fun l => (bound hi len).bind fun h =>
      match mx with
      | none => if sz = e.sz ∧ 0 ≤ l ∧ l ≤ h ∧ h ≤ len then some (.msl k (off + l.toNat) (h.toNat - l.toNat) n) else none
      | some m => (idx m).bind fun m => if sz = e.sz ∧ 0 ≤ l ∧ l = h ∧ h = m ∧ m ≤ len then some .nilsl else none
  | .nilsl => (tElem P t).bind fun e => (bound lo 0).bind fun l => (bound hi 0).bind fun h =>
      match mx with
      | none => if l = 0 ∧ h = 0 then some .nilsl else none
      | some m => (idx m).bind fun m => if l = 0 ∧ h = 0 ∧ m = 0 then some .nilsl else none
  | _ => none
/-- What a slice or string has in it, as elements (strings: bytes). -/
def elems (M : List MO) (sz : Nat) : AV → Option (List IV)
  | .iv (.sl sz' xs) => if sz' = sz ∨ xs = [] then some xs else none
  | .nilsl => some []
  | .msl k off len n => (rowAt M k n).bind fun (_, _, sz', xs) => if sz' = sz ∧ off + len ≤ n then some ((xs.drop off).take len) else none
  | .iv (.str s) => if sz = 1 then some (s.data.toList.map fun b => .int .u8 b.toNat) else none
  | _ => none
def lenAV (M : List MO) : AV → Option Nat
  | .iv (.sl _ xs) => some xs.length
  | .nilsl => some 0
  | .msl k off len n => (rowAt M k n).bind fun _ => if off + len ≤ n then some len else none
  | .iv (.str s) => some s.size
  | _ => none
/-- An element's write: all of it, or some of its cells. -/
def putElem (sz : Nat) (x : IV) (c : Nat) (y : IV) : Option IV :=
  if c = 0 ∧ y.fits sz = true then some y
  else match x with
    | .agg cs => if c + y.cells.length ≤ cs.length ∧ y.cells.all IV.one = true then some (.agg (setCells cs c y.cells)) else none
    | _ => none
def fillAV (place : Nat → Option (Nat × Nat)) (cells : List AV) : List (Nat × AV) → Option (List AV)
  | [] => some cells
  | (i, v) :: rest => (place i).bind fun (off, size) => v.cells.bind fun cs => if cs.length ≠ size ∨ off + size > cells.length then none else fillAV place (setCells cells off cs) rest
def fillRow : List IV → List (Nat × IV) → Option (List IV)
  | xs, [] => some xs
  | xs, (i, v) :: rest => if i < xs.length then fillRow (xs.set i v) rest else none
def partsF (M : List MO) : List (Nat × AV) → Option (List (Nat × IV) × List MO)
  | [] => some ([], M)
  | (i, x) :: l => (toIVF M x).bind fun (y, M') => (partsF M' l).map fun (ys, M'') => ((i, y) :: ys, M'')

/-- A slice that is not empty against nil. -/
def nilCmp (P : Program) (op : BinOp) (t : TypeId) (y : Operand) (u : AV) : Option Bool :=
  match y with
  | .const (.slice none 0 0) =>
    match tKind P t, u with
    | some .slc, .iv (.sl _ xs) => if 0 < xs.length then (match op with | .eql => some false | .neq => some true | _ => none) else none
    | _, _ => none
  | _ => none

inductive Cls where | p | r | w
  deriving DecidableEq

/-- A row that a slice leads to: where it ends it is appended to. -/
def appendAV (M : List MO) (e : Elem) (s x : AV) : Option (AV × List MO) :=
  match s with
  | .nilsl => (elems M e.sz x).bind fun ys => if ys.length * e.bytes ≤ 140737488355328 then some (.msl M.length 0 ys.length ys.length, M ++ [.row true e.T e.sz ys]) else none
  | .msl k off len n => (elems M e.sz x).bind fun ys =>
      match M[k]? with
      | some (.row true T sz xs) => if n = xs.length ∧ off = 0 ∧ len = n ∧ sz = e.sz ∧ T = e.T ∧ (n + ys.length) * e.bytes ≤ 140737488355328 then
          some (.msl k 0 (n + ys.length) (n + ys.length), M.set k (.row true T sz (xs ++ ys))) else none
      | _ => none
  | _ => none

def minAll (k : IntKind) : Int → List AV → Option Int
  | a, [] => some a
  | a, .iv (.int k' b) :: l => if k = k' then minAll k (min a b) l else none
  | _, _ => none
def maxAll (k : IntKind) : Int → List AV → Option Int
  | a, [] => some a
  | a, .iv (.int k' b) :: l => if k = k' then maxAll k (max a b) l else none
  | _, _ => none

def clearAV (P : Program) (ts : List TypeId) (args : List AV) (M : List MO) : Option (Cls × AV × List MO) :=
  match ts, args with
  | t :: _, [d] => (tElem P t).bind fun e => (constIV e.zero).bind fun z =>
    match d with
    | .msl k off len n =>
      match M[k]? with
      | some (.row true T sz xs) => if n = xs.length ∧ off + len ≤ n ∧ sz = e.sz ∧ T = e.T ∧ z.fits e.sz = true then
          some (.w, .iv (.tup []), M.set k (.row true T sz (xs.take off ++ List.replicate len z ++ xs.drop (off + len)))) else none
      | _ => none
    | _ => none
  | _, _ => none
def builtin0 (P : Program) (b : Builtin) (ts : List TypeId) (args : List AV) (M : List MO) : Option (Cls × AV × List MO) :=
  match b, ts, args with
  | .len, t :: _, [x] =>
    match tKind P t with
    | some .slc => match x with | .iv (.str _) => none | _ => (lenAV M x).map fun (n : Nat) => (.r, .iv (.int .i64 (n : Int)), M)
    | some .str => match x with | .iv (.str s) => some (.p, .iv (.int .i64 s.size), M) | _ => none
    | _ => none
  | .append, t :: t2 :: _, [s, x] =>
    match tKind P t2 with
    | some .slc | some .str => (tElem P t).bind fun e => (appendAV M e s x).map fun (v, M') => (.w, v, M')
    | _ => none
  | .min, _, .iv (.int k a) :: l => (minAll k a l).map fun c => (.p, .iv (.int k c), M)
  | .max, _, .iv (.int k a) :: l => (maxAll k a l).map fun c => (.p, .iv (.int k c), M)
  | .copy, t :: _, [d, x] => (tElem P t).bind fun e => (elems M e.sz x).bind fun ys =>
    match d with
    | .msl k off len n =>
      match M[k]? with
      | some (.row true T sz xs) => if n = xs.length ∧ off + len ≤ n ∧ sz = e.sz ∧ T = e.T then
          some (.w, .iv (.int .i64 (min ys.length len : Nat)), M.set k (.row true T sz (xs.take off ++ ys.take (min ys.length len) ++ xs.drop (off + min ys.length len)))) else none
      | _ => none
    | _ => none
  | _, _, _ => none

def builtinAV (P : Program) (b : Builtin) (ts : List TypeId) (args : List AV) (M : List MO) : Option (Cls × AV × List MO) :=
  match b with
  | .clear => clearAV P ts args M
  | b => builtin0 P b ts args M

def convAV (P : Program) (src dst : TypeId) (x : AV) (M : List MO) : Option (Cls × AV × List MO) :=
  match tKind P dst, x with
  | some (.int k), .iv (.int _ n) => if (tKind P src).isSome then some (.p, .iv (.int k (k.wrap n)), M) else none
  | some .str, .iv (.str s) => if (tKind P src).isSome then some (.p, .iv (.str s), M) else none
  | _, _ => none

def bytesOf? : List IV → Option (List UInt8)
  | [] => some []
  | .int .u8 n :: l => (bytesOf? l).map (UInt8.ofNat n.toNat :: ·)
  | _ :: _ => none
def isU8 (P : Program) (t : TypeId) : Bool := match tKind P t with
  | some (.int .u8) => true
  | _ => false
def AV.isStr : AV → Bool
  | .iv (.str _) => true
  | _ => false
def strOf (P : Program) (src dst : TypeId) (x : AV) (M : List MO) : Option (Cls × AV × List MO) :=
  match tKind P dst, tElem P src with
  | some .str, some e => if isU8 P e.T = true ∧ x.isStr = false then (elems M 1 x).bind fun ys => (bytesOf? ys).map fun l => (.r, .iv (.str ⟨l.toArray⟩), M) else none
  | _, _ => none

/-- What an operation (no call of a function) does: its kind, its value, the objects. -/
def eff (P : Program) (o : Oper) (ev : Operand → AV) (M : List MO) : Option (Cls × AV × List MO) :=
  match o.op with
  | .move x => some (.p, ev x, M)
  | .assign x =>
    match x with
    | .const (.slice none 0 0) => (tElem P o.type).map fun e => (.w, .msl M.length 0 0 0, M ++ [.row true e.T e.sz []])
    | x => some (.p, ev x, M)
  | .pick c a b => match ev c with
    | .iv (.bool t) => some (.p, if t then ev a else ev b, M)
    | _ => none
  | .alloc T => (tZero P T).bind fun z => (constAV z).cells.map fun cs => (.w, .mp M.length 0, M ++ [.var T cs])
  | .box T x => (ev x).cells.map fun cs => (.w, .mp M.length 0, M ++ [.var T cs])
  | .build t parts =>
    (tZero P t).bind fun z => (constAV z).cells.bind fun cs =>
      (tPlaces P t).bind fun pl => (fillAV (fun i => pl[i]?) cs (parts.toList.map fun (i, x) => (i, ev x))).map fun cs => (.p, mkAgg cs, M)
  | .buildSlice t len parts =>
    (tElem P t).bind fun e => (constIV e.zero).bind fun z =>
      if len * e.sz ≤ 16777216 ∧ z.fits e.sz = true then
        (partsF M (parts.toList.map fun (i, x) => (i, ev x))).bind fun (ps, M') =>
          if ps.all (fun p => p.2.fits e.sz) then
            (fillRow (List.replicate len z) ps).map fun xs => (.w, .msl M'.length 0 len len, M' ++ [.row true e.T e.sz xs])
          else none
      else none
  | .load t a => (tAgg P t).bind fun ag =>
    match ev a with
    | .mp k off => match M[k]? with
      | some (.var _ cs) => (varPart ag cs off).map fun v => (.r, v, M)
      | _ => none
    | .rp k n i c => (rowAt M k n).bind fun (_, _, _, xs) => (xs[i]?).bind fun x => (elemPart ag x c).map fun v => (.r, .iv v, M)
    | .ip _ xs i c => (xs[i]?).bind fun x => (elemPart ag x c).map fun v => (.p, .iv v, M)
    | _ => none
  | .store t a x => (tSize P t).bind fun n =>
    match ev a with
    | .mp k off => match M[k]? with
      | some (.var T cs) => (ev x).cells.bind fun ys => if ys.length = n ∧ off + n ≤ cs.length ∧ ys.all AV.one = true then some (.w, .any, M.set k (.var T (setCells cs off ys))) else none
      | _ => none
    | .rp k m i c => (toIVF M (ev x)).bind fun (y, M') =>
      match M'[k]? with
      | some (.row true T sz xs) => if m = xs.length ∧ y.cells.length = n then
          (xs[i]?).bind fun old => (putElem sz old c y).map fun z => (.w, .any, M'.set k (.row true T sz (xs.set i z))) else none
      | _ => none
    | _ => none
  | .nilCheck x => match ev x with
    | .mp k off => some (.p, .mp k off, M)
    | .ip sz xs i c => some (.p, .ip sz xs i c, M)
    | .rp k n i c => (rowAt M k n).map fun _ => (.r, .rp k n i c, M)
    | .fn f cs => some (.p, .fn f cs, M)
    | .iv (.fnc f) => some (.p, .iv (.fnc f), M)
    | _ => none
  | .binOp op t x y _ => match nilCmp P op t y (ev x) with
    | some b => some (.p, .iv (.bool b), M)
    | none => (binAV P op t (ev x) (ev y)).map fun v => (.p, .iv v, M)
  | .unOp op _ x => (unAV op (ev x)).map fun v => (.p, .iv v, M)
  | .convert src dst x => match convAV P src dst (ev x) M with
    | some r => some r
    | none => strOf P src dst (ev x) M
  | .makeFunc (.func f) first caps => if first.isEmpty then some (.p, if caps.isEmpty then .iv (.fnc f) else .fn f (caps.toList.map ev), M) else none
  | .makeSlice t l c =>
    match ev l, ev c with
    | .iv (.int _ n), .iv (.int _ m) => (tElem P t).bind fun e => (constIV e.zero).bind fun z =>
      if 0 ≤ n ∧ n = m ∧ n * e.bytes ≤ 140737488355328 ∧ z.fits e.sz = true then some (.w, .msl M.length 0 n.toNat n.toNat, M ++ [.row true e.T e.sz (List.replicate n.toNat z)]) else none
    | _, _ => none
  | .slice t x lo hi mx => if mx.isSome = true ∧ hi.isSome = false then none else (sliceAV P t M (ev x) (lo.map ev) (hi.map ev) (mx.map ev)).map fun v => (.r, v, M)
  | .fieldAddr s x f => (tField P s f).bind fun (off, _) =>
    match ev x with
    | .mp k o => some (.p, .mp k (o + off), M)
    | .ip sz xs i c => some (.p, .ip sz xs i (c + off), M)
    | .rp k n i c => (rowAt M k n).map fun _ => (.r, .rp k n i (c + off), M)
    | _ => none
  | .field s x f => (tField P s f).bind fun (off, ft) => (tAgg P ft).bind fun ag =>
    match ev x with
    | .iv (.agg cs) => (elemPart ag (.agg cs) off).map fun v => (.p, .iv v, M)
    | .agg cs => (varPart ag cs off).map fun v => (.p, v, M)
    | _ => none
  | .indexAddr t x i => (idx (ev i)).bind fun j =>
    match ev x with
    | .iv (.sl sz xs) => (tElem P t).bind fun e => if 0 ≤ j ∧ j < xs.length ∧ sz = e.sz then some (.p, .ip sz xs j.toNat 0, M) else none
    | .msl k off len n => (tElem P t).bind fun e => (rowAt M k n).bind fun (_, _, sz, _) => if 0 ≤ j ∧ j < len ∧ sz = e.sz then some (.r, .rp k n (off + j.toNat) 0, M) else none
    | .mp k off => (tArr P t).bind fun (n, _, sz) => if 0 ≤ j ∧ j < n then some (.p, .mp k (off + j.toNat * sz), M) else none
    | _ => none
  | .index t x i => (idx (ev i)).bind fun j =>
    match ev x with
    | .iv (.str s) => if tKind P t matches some .str then if 0 ≤ j ∧ j < s.size then some (.p, .iv (.int .u8 (s.data.toList.getD j.toNat 0).toNat), M) else none else none
    | .iv (.agg cs) => (tArr P t).bind fun (n, et, sz) => (tAgg P et).bind fun ag => if 0 ≤ j ∧ j < n then (elemPart ag (.agg cs) (j.toNat * sz)).map fun v => (.p, .iv v, M) else none
    | _ => none
  | .extract x i => match ev x with
    | .iv (.tup vs) => (vs[i]?).map fun v => (.p, .iv v, M)
    | .tup vs => (vs[i]?).map fun v => (.p, v, M)
    | _ => none
  | .call c => match c.callee with
    | .builtin b => builtinAV P b c.argTypes.toList (c.args.toList.map ev) M
    | _ => none
  | _ => none

end Go.Proofs.Ytebegdnebjjnmaa.AM
