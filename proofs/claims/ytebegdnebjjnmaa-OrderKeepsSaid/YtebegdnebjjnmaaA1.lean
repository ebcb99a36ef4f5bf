
/- The abstract machine, 1: values without addresses, what they stand for in memory, and that this stays so while memory grows. No condition. -/
import Derived.Calls
import Derived.Below
import Derived.Orders
set_option linter.unusedVariables false
set_option linter.unusedSimpArgs false
namespace Go.Proofs.Ytebegdnebjjnmaa.AM
open Go Go.RowKit

/-- A value that no memory of the call's own is in: a frozen slice is the list of its elements. -/
inductive IV where
  | bool (b : Bool)
  | int (k : IntKind) (n : Int)
  | str (s : ByteArray)
  | nilp
  | fnc (f : Nat)
  | sl (sz : Nat) (xs : List IV)
  | agg (cs : List IV)
  | tup (vs : List IV)
  deriving Inhabited

def IV.cells : IV → List IV
  | .agg cs => cs
  | x => [x]

/-- Of one cell. -/
def IV.one : IV → Bool
  | .agg _ => false
  | .tup _ => false
  | _ => true
/-- Of sz cells. -/
def IV.fits (sz : Nat) (x : IV) : Bool := x.cells.length == sz && x.cells.all IV.one
theorem IV.fits_len {sz : Nat} {x : IV} (h : x.fits sz = true) : x.cells.length = sz := by simp [IV.fits] at h; exact h.1
theorem IV.fits_one {sz : Nat} {x : IV} (h : x.fits sz = true) {j : Nat} {y : IV} (hy : x.cells[j]? = some y) : y.one = true := by
  simp [IV.fits] at h; exact h.2 y (List.mem_of_getElem? hy)

/-- Value v stands for x in world w, and what is read of it lies outside of the blocks E. -/
inductive RepI (E : Nat → Prop) (w : World) : IV → Value → Prop
  | bool (b : Bool) : RepI E w (.bool b) (.bool b)
  | int (k : IntKind) (n : Int) : RepI E w (.int k n) (.int k n)
  | str (s : ByteArray) : RepI E w (.str s) (.string s)
  | nilp : RepI E w .nilp (.pointer none)
  | fnc (f : Nat) : RepI E w (.fnc f) (.func (.func f) #[] #[])
  | sl0 (sz : Nat) (A : Option Addr) (c : Nat) : RepI E w (.sl sz []) (.slice A 0 c)
  | sl (sz : Nat) (xs : List IV) (b o c : Nat) (u : Nat → Nat → Value) (hc : xs.length ≤ c) (hE : ¬ E b) (hb : b < w.heap.size)
      (hs : ∀ (i : Nat) (x : IV), xs[i]? = some x → x.fits sz = true)
      (hu : ∀ i j : Nat, i < xs.length → j < sz → w.cell? ⟨b, o + (i * sz + j), none⟩ = some (u i j))
      (hr : ∀ (i : Nat) (x : IV) (j : Nat) (y : IV), xs[i]? = some x → x.cells[j]? = some y → RepI E w y (u i j)) :
      RepI E w (.sl sz xs) (.slice (some ⟨b, o, none⟩) xs.length c)
  | agg (cs : List IV) (vs : Array Value) (hl : vs.size = cs.length)
      (h : ∀ (i : Nat) (y : IV) (z : Value), cs[i]? = some y → vs[i]? = some z → RepI E w y z) : RepI E w (.agg cs) (.agg vs)
  | tup (cs : List IV) (vs : Array Value) (hl : vs.size = cs.length)
      (h : ∀ (i : Nat) (y : IV) (z : Value), cs[i]? = some y → vs[i]? = some z → RepI E w y z) : RepI E w (.tup cs) (.tuple vs)

/-- From w to w' the blocks outside of E stay, and stay outside of E'. -/
def Stay (E E' : Nat → Prop) (w w' : World) : Prop := w.heap.size ≤ w'.heap.size ∧ ∀ b, b < w.heap.size → ¬ E b → w'.heap[b]? = w.heap[b]? ∧ ¬ E' b

theorem Stay.refl (E : Nat → Prop) (w : World) : Stay E E w w := ⟨Nat.le_refl _, fun _ _ h => ⟨rfl, h⟩⟩
theorem Stay.trans {E E' E'' : Nat → Prop} {w w' w'' : World} (h : Stay E E' w w') (k : Stay E' E'' w' w'') : Stay E E'' w w'' :=
  ⟨Nat.le_trans h.1 k.1, fun b hb hE => by
    have h1 := h.2 b hb hE
    have h2 := k.2 b (Nat.lt_of_lt_of_le hb h.1) h1.2
    exact ⟨h2.1.trans h1.1, h2.2⟩⟩

theorem cell_of_heap {w w' : World} {b o : Nat} (h : w'.heap[b]? = w.heap[b]?) : w'.cell? ⟨b, o, none⟩ = w.cell? ⟨b, o, none⟩ :=
  World.cell?_of_block (w := w) h

theorem RepI.mono {E E' : Nat → Prop} {w w' : World} {x : IV} {v : Value} (h : RepI E w x v) (hw : Stay E E' w w') : RepI E' w' x v := by
  induction h with
  | bool b => exact .bool b
  | int k n => exact .int k n
  | str s => exact .str s
  | nilp => exact .nilp
  | fnc f => exact .fnc f
  | sl0 sz A c => exact .sl0 sz A c
  | sl sz xs b o c u hc hE hb hs hu hr ih =>
    have h1 := hw.2 b hb hE
    exact .sl sz xs b o c u hc h1.2 (Nat.lt_of_lt_of_le hb hw.1) hs (fun i j hi hj => (cell_of_heap h1.1).trans (hu i j hi hj)) ih
  | agg cs vs hl h ih => exact .agg cs vs hl ih
  | tup cs vs hl h ih => exact .tup cs vs hl ih

/-- A value in a slot: known not at all, without memory, or leading to memory of the call's own, by names (numbers of objects). -/
inductive AV where
  | any
  | iv (x : IV)
  | nilsl
  | msl (k off len n : Nat)
  | mp (k off : Nat)
  | rp (k n i c : Nat)
  | ip (sz : Nat) (xs : List IV) (i c : Nat)
  | agg (cs : List AV)
  | tup (vs : List AV)
  | fn (f : Nat) (caps : List AV)
  deriving Inhabited

/-- An object of the call's own: a row (that may still be written, or is frozen), or a variable's cells. -/
inductive MO where
  | row (m : Bool) (T : TypeId) (sz : Nat) (xs : List IV)
  | var (T : TypeId) (cs : List AV)
  deriving Inhabited

def MO.mut : MO → Bool
  | .row m _ _ _ => m
  | .var _ _ => true

/-- What a slice of an object's row is. -/
def SlFact (ρ : Nat → Option Nat) (w : World) (k : Nat) (T : TypeId) (sz off len n : Nat) (v : Value) : Prop :=
  off + len ≤ n ∧ ∃ A c, v = .slice A len c ∧ len ≤ c ∧
    match ρ k with
    | none => c = 0 ∧ n = 0
    | some b => (0 < c → A = some ⟨b, off * sz, none⟩) ∧ ∃ arr fz, w.heap[b]? = some (.cells arr T fz) ∧ (off + c) * sz ≤ arr.size

inductive RepA (M : List MO) (ρ : Nat → Option Nat) (E : Nat → Prop) (w : World) : AV → Value → Prop
  | any (v : Value) : RepA M ρ E w .any v
  | iv (x : IV) (v : Value) (h : RepI E w x v) : RepA M ρ E w (.iv x) v
  | nilsl (A : Option Addr) : RepA M ρ E w .nilsl (.slice A 0 0)
  | msl (k off len n : Nat) (v : Value) (m : Bool) (T : TypeId) (sz : Nat) (xs : List IV) (h : M[k]? = some (.row m T sz xs)) (hn : n ≤ xs.length) (hv : ∃ A l c, v = .slice A l c)
      (hf : n = xs.length → SlFact ρ w k T sz off len n v) : RepA M ρ E w (.msl k off len n) v
  | mp (k off : Nat) (T : TypeId) (cs : List AV) (b : Nat) (h : M[k]? = some (.var T cs)) (hb : ρ k = some b) : RepA M ρ E w (.mp k off) (.pointer (some ⟨b, off, none⟩))
  | rp (k n i c : Nat) (v : Value) (m : Bool) (T : TypeId) (sz : Nat) (xs : List IV) (h : M[k]? = some (.row m T sz xs)) (hn : n ≤ xs.length) (hv : ∃ A, v = .pointer A)
      (hf : n = xs.length → ∃ b, ρ k = some b ∧ v = .pointer (some ⟨b, i * sz + c, none⟩)) : RepA M ρ E w (.rp k n i c) v
  | ip (sz : Nat) (xs : List IV) (i c b o cap : Nat) (h : RepI E w (.sl sz xs) (.slice (some ⟨b, o, none⟩) xs.length cap)) (hi : i < xs.length) :
      RepA M ρ E w (.ip sz xs i c) (.pointer (some ⟨b, o + (i * sz + c), none⟩))
  | agg (cs : List AV) (vs : Array Value) (hl : vs.size = cs.length)
      (h : ∀ (i : Nat) (y : AV) (z : Value), cs[i]? = some y → vs[i]? = some z → RepA M ρ E w y z) : RepA M ρ E w (.agg cs) (.agg vs)
  | tup (cs : List AV) (vs : Array Value) (hl : vs.size = cs.length)
      (h : ∀ (i : Nat) (y : AV) (z : Value), cs[i]? = some y → vs[i]? = some z → RepA M ρ E w y z) : RepA M ρ E w (.tup cs) (.tuple vs)
  | fn (f : Nat) (caps : List AV) (vs : Array Value) (hl : vs.size = caps.length)
      (h : ∀ (i : Nat) (y : AV) (z : Value), caps[i]? = some y → vs[i]? = some z → RepA M ρ E w y z) : RepA M ρ E w (.fn f caps) (.func (.func f) #[] vs)

/-- A cell that no string shares. -/
def Unfrozen (arr : Array Value) (fz : Nat × Nat) : Prop := ∀ i, i < arr.size → (decide (fz.1 ≤ i) && decide (i < fz.2)) = false

/-- What an object is in memory. -/
def ObjRep (M : List MO) (ρ : Nat → Option Nat) (E : Nat → Prop) (w : World) (k : Nat) : MO → Prop
  | .row _ T sz xs => (∀ (i : Nat) (x : IV), xs[i]? = some x → x.fits sz = true) ∧
    match ρ k with
    | none => xs = []
    | some b => ∃ arr fz, w.heap[b]? = some (.cells arr T fz) ∧ Unfrozen arr fz ∧ xs.length * sz ≤ arr.size ∧
        ∀ (i : Nat) (x : IV) (j : Nat) (y : IV), xs[i]? = some x → x.cells[j]? = some y → ∃ u, arr[i * sz + j]? = some u ∧ RepI E w y u
  | .var T cs => ∃ b arr fz, ρ k = some b ∧ w.heap[b]? = some (.cells arr T fz) ∧ Unfrozen arr fz ∧ arr.size = cs.length ∧
      ∀ (i : Nat) (y : AV) (u : Value), cs[i]? = some y → arr[i]? = some u → RepA M ρ E w y u

/-- The blocks that nobody may read but by an object's name: X, and those of the objects that may be written. -/
def excl (X : Nat → Prop) (M : List MO) (ρ : Nat → Option Nat) (b : Nat) : Prop := X b ∨ ∃ k o, M[k]? = some o ∧ o.mut = true ∧ ρ k = some b

/-- Of what lay in w0 only the blocks O may have turned. -/
structure Keep (O : Nat → Prop) (w0 w : World) : Prop where
  os : w.os = w0.os
  tape : w.tape = w0.tape
  output : w.output = w0.output
  size : w0.heap.size ≤ w.heap.size
  block : ∀ b, b < w0.heap.size → ¬ O b → w.heap[b]? = w0.heap[b]?

theorem Keep.refl (O : Nat → Prop) (w : World) : Keep O w w := ⟨rfl, rfl, rfl, Nat.le_refl _, fun _ _ _ => rfl⟩
theorem Keep.trans {O O' : Nat → Prop} {a b c : World} (h : Keep O a b) (k : Keep O' b c) (hO : ∀ x, x < a.heap.size → O' x → O x) : Keep O a c :=
  ⟨k.os.trans h.os, k.tape.trans h.tape, k.output.trans h.output, Nat.le_trans h.size k.size,
   fun x hx hn => (k.block x (Nat.lt_of_lt_of_le hx h.size) (fun h' => hn (hO x hx h'))).trans (h.block x hx hn)⟩
theorem Keep.below {w0 w : World} (h : Keep (fun _ => False) w0 w) : Below w0.heap.size w0 w := ⟨h.os, h.tape, h.output, h.size, fun k hk => h.block k hk (fun h => h)⟩
theorem Keep.of_below {w0 w : World} (h : Below w0.heap.size w0 w) : Keep (fun _ => False) w0 w := ⟨h.os, h.tape, h.output, h.size, fun k hk _ => h.block k hk⟩

/-- The objects' part of a state. -/
structure MemOk (X O : Nat → Prop) (w0 : World) (M : List MO) (ρ : Nat → Option Nat) (w : World) : Prop where
  obj : ∀ k o, M[k]? = some o → ObjRep M ρ (excl X M ρ) w k o
  inj : ∀ k k' b, k < M.length → k' < M.length → ρ k = some b → ρ k' = some b → k = k'
  own : ∀ k b, k < M.length → ρ k = some b → ¬ X b ∧ (O b ∨ w0.heap.size ≤ b)
  keep : Keep O w0 w
  ext : ∀ b, X b → b < w.heap.size

/-- All names in a value are below n. -/
inductive AV.Sc (n : Nat) : AV → Prop
  | any : AV.Sc n .any
  | iv (x : IV) : AV.Sc n (.iv x)
  | nilsl : AV.Sc n .nilsl
  | msl (k off len m : Nat) (h : k < n) : AV.Sc n (.msl k off len m)
  | mp (k off : Nat) (h : k < n) : AV.Sc n (.mp k off)
  | rp (k m i c : Nat) (h : k < n) : AV.Sc n (.rp k m i c)
  | ip (sz : Nat) (xs : List IV) (i c : Nat) : AV.Sc n (.ip sz xs i c)
  | agg (cs : List AV) (h : ∀ (i : Nat) (y : AV), cs[i]? = some y → AV.Sc n y) : AV.Sc n (.agg cs)
  | tup (cs : List AV) (h : ∀ (i : Nat) (y : AV), cs[i]? = some y → AV.Sc n y) : AV.Sc n (.tup cs)
  | fn (f : Nat) (cs : List AV) (h : ∀ (i : Nat) (y : AV), cs[i]? = some y → AV.Sc n y) : AV.Sc n (.fn f cs)

theorem AV.Sc.mono {n m : Nat} (h : n ≤ m) {x : AV} (hx : AV.Sc n x) : AV.Sc m x := by
  induction hx with
  | any => exact .any
  | iv x => exact .iv x
  | nilsl => exact .nilsl
  | msl k off len j hk => exact .msl k off len j (by omega)
  | mp k off hk => exact .mp k off (by omega)
  | rp k j i c hk => exact .rp k j i c (by omega)
  | ip sz xs i c => exact .ip sz xs i c
  | agg cs _ ih => exact .agg cs ih
  | tup cs _ ih => exact .tup cs ih
  | fn f cs _ ih => exact .fn f cs ih

theorem RepA.sc {M : List MO} {ρ : Nat → Option Nat} {E : Nat → Prop} {w : World} {x : AV} {v : Value} (h : RepA M ρ E w x v) : AV.Sc M.length x := by
  induction h with
  | any v => exact .any
  | iv x v h => exact .iv x
  | nilsl A => exact .nilsl
  | msl k off len n v m T sz xs h hn hv hf => exact .msl k off len n (List.getElem?_eq_some_iff.1 h).1
  | mp k off T cs b h hb => exact .mp k off (List.getElem?_eq_some_iff.1 h).1
  | rp k n i c v m T sz xs h hn hv hf => exact .rp k n i c (List.getElem?_eq_some_iff.1 h).1
  | ip sz xs i c b o cap h hi => exact .ip sz xs i c
  | agg cs vs hl h ih => exact .agg cs (fun i y hy => by
      have hi := (List.getElem?_eq_some_iff.1 hy).1
      exact ih i y _ hy (Array.getElem?_eq_getElem (by omega)))
  | tup cs vs hl h ih => exact .tup cs (fun i y hy => by
      have hi := (List.getElem?_eq_some_iff.1 hy).1
      exact ih i y _ hy (Array.getElem?_eq_getElem (by omega)))
  | fn f cs vs hl h ih => exact .fn f cs (fun i y hy => by
      have hi := (List.getElem?_eq_some_iff.1 hy).1
      exact ih i y _ hy (Array.getElem?_eq_getElem (by omega)))

/-- A state of the machine: how many slots, what is in them, the objects, and how many of these the caller knows. -/
structure St where
  n : Nat
  t : Nat → AV
  M : List MO
  b : Nat

structure Sim (X O : Nat → Prop) (w0 : World) (F : AV → Value → Prop) (s : St) (ρ : Nat → Option Nat) (a : Act) (w : World) : Prop where
  size : a.tmps.size = s.n
  defers : a.defers = []
  tm : ∀ i, RepA s.M ρ (excl X s.M ρ) w (s.t i) (a.tmps.getD i undef)
  mem : MemOk X O w0 s.M ρ w
  fr : ∀ x u, F x u → AV.Sc s.b x ∧ RepA s.M ρ (excl X s.M ρ) w x u

/-- What must hold of the objects so that slots read as before. -/
structure Evo (M M' : List MO) (ρ ρ' : Nat → Option Nat) (E E' : Nat → Prop) (w w' : World) : Prop where
  stay : Stay E E' w w'
  var : ∀ k T cs, M[k]? = some (.var T cs) → ∃ cs', M'[k]? = some (.var T cs') ∧ ρ' k = ρ k
  row : ∀ k m T sz xs, M[k]? = some (.row m T sz xs) → ∃ m' xs', M'[k]? = some (.row m' T sz xs') ∧ xs.length ≤ xs'.length ∧
    (xs.length = xs'.length → ρ' k = ρ k ∧ ∀ b arr fz, ρ k = some b → w.heap[b]? = some (.cells arr T fz) → ∃ arr' fz', w'.heap[b]? = some (.cells arr' T fz') ∧ arr.size ≤ arr'.size)

theorem RepA.mono {M M' : List MO} {ρ ρ' : Nat → Option Nat} {E E' : Nat → Prop} {w w' : World} {x : AV} {v : Value} (h : RepA M ρ E w x v) (hw : Evo M M' ρ ρ' E E' w w') :
    RepA M' ρ' E' w' x v := by
  induction h with
  | any v => exact .any v
  | iv x v h => exact .iv x v (h.mono hw.stay)
  | nilsl A => exact .nilsl A
  | msl k off len n v m T sz xs h hn hv hf =>
    obtain ⟨m', xs', h1, h2, h3⟩ := hw.row k m T sz xs h
    refine .msl k off len n v m' T sz xs' h1 (Nat.le_trans hn h2) hv (fun e => ?_)
    have e1 : n = xs.length := by omega
    have e2 : xs.length = xs'.length := by omega
    obtain ⟨h4, A, c, hv, hlc, h5⟩ := hf e1
    obtain ⟨hρ, h6⟩ := h3 e2
    refine ⟨h4, A, c, hv, hlc, ?_⟩
    rw [hρ]
    cases hk : ρ k with
    | none => rw [hk] at h5; exact h5
    | some b =>
      rw [hk] at h5
      obtain ⟨h7, arr, fz, h8, h9⟩ := h5
      obtain ⟨arr', fz', h10, h11⟩ := h6 b arr fz hk h8
      exact ⟨h7, arr', fz', h10, Nat.le_trans h9 h11⟩
  | mp k off T cs b h hb =>
    obtain ⟨cs', h1, h2⟩ := hw.var k T cs h
    exact .mp k off T cs' b h1 (h2.trans hb)
  | rp k n i c v m T sz xs h hn hv hf =>
    obtain ⟨m', xs', h1, h2, h3⟩ := hw.row k m T sz xs h
    refine .rp k n i c v m' T sz xs' h1 (Nat.le_trans hn h2) hv (fun e => ?_)
    have e1 : n = xs.length := by omega
    obtain ⟨b, hb, hv⟩ := hf e1
    exact ⟨b, (h3 (by omega)).1.trans hb, hv⟩
  | ip sz xs i c b o cap h hi => exact .ip sz xs i c b o cap (h.mono hw.stay) hi
  | agg cs vs hl h ih => exact .agg cs vs hl ih
  | tup cs vs hl h ih => exact .tup cs vs hl ih
  | fn f caps vs hl h ih => exact .fn f caps vs hl ih

end Go.Proofs.Ytebegdnebjjnmaa.AM
