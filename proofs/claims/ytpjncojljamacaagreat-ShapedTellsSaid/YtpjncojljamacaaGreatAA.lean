
/- The abstract machine, first part: values, memory, one operation. No condition. -/
import Derived.Calls
import Derived.Below
import Derived.Orders
import Derived.Laws.Slices
import Derived.Laws.Entries
import Derived.Laws.AppendOwn
import Derived.Laws.Cells
import Derived.Laws.BytesString
set_option linter.unusedVariables false
set_option linter.unusedSimpArgs false
namespace Go.Proofs.YtpjncojljamacaaGreat.AM
open Go Go.RowKit

inductive IV where
  | bool (b : Bool)
  | int (k : IntKind) (n : Int)
  | str (s : ByteArray)
  | nilp
  | fnc (f : Nat)
  | sl (sz : Nat) (xs : List IV)
  | agg (cs : List IV)
  | tup (vs : List IV)
  | map (ks vs : List IV)
  deriving Inhabited

def dataO : Obj → Bool
  | .cells .. => true
  | .map .. => true
  | .mapIter .. => true
  | .stringIter .. => true
  | _ => false
def MapOk (es : Array MapEntry) (clock : Nat) : Prop := clock = es.size ∧ ∀ (i : Nat) (e : MapEntry), es[i]? = some e → e.born = i

def IV.cells : IV → List IV
  | .agg cs => cs
  | x => [x]

def IV.one : IV → Bool
  | .agg _ => false
  | .tup _ => false
  | _ => true
def IV.fits (sz : Nat) (x : IV) : Bool := x.cells.length == sz && x.cells.all IV.one
theorem IV.fits_len {sz : Nat} {x : IV} (h : x.fits sz = true) : x.cells.length = sz := by simp [IV.fits] at h; exact h.1
theorem IV.fits_one {sz : Nat} {x : IV} (h : x.fits sz = true) {j : Nat} {y : IV} (hy : x.cells[j]? = some y) : y.one = true := by
  simp [IV.fits] at h; exact h.2 y (List.mem_of_getElem? hy)

inductive RepI (E : Nat → Prop) (w : World) : IV → Value → Prop
  | bool (b : Bool) : RepI E w (.bool b) (.bool b)
  | int (k : IntKind) (n : Int) : RepI E w (.int k n) (.int k n)
  | str (s : ByteArray) : RepI E w (.str s) (.string s)
  | nilp : RepI E w .nilp (.pointer none)
  | fnc (f : Nat) : RepI E w (.fnc f) (.func (.func f) #[] #[])
  | sl0 (sz : Nat) (A : Option Addr) (c : Nat) : RepI E w (.sl sz []) (.slice A 0 c)
  | sl (sz : Nat) (xs : List IV) (b o c : Nat) (u : Nat → Nat → Value) (hc : xs.length ≤ c) (hE : ¬ E b) (hb : b < w.heap.size)
      (hs : ∀ (i : Nat) (x : IV), xs[i]? = some x → x.fits sz = true)
      (hu : ∀ i j : Nat, i < xs.length → j < sz → w.cell? ⟨b, o + (i * sz + j), none⟩ = some (u i j))
      (hr : ∀ (i : Nat) (x : IV) (j : Nat) (y : IV), xs[i]? = some x → x.cells[j]? = some y → RepI E w y (u i j)) :
      RepI E w (.sl sz xs) (.slice (some ⟨b, o, none⟩) xs.length c)
  | agg (cs : List IV) (vs : Array Value) (hl : vs.size = cs.length)
      (h : ∀ (i : Nat) (y : IV) (z : Value), cs[i]? = some y → vs[i]? = some z → RepI E w y z) : RepI E w (.agg cs) (.agg vs)
  | tup (cs : List IV) (vs : Array Value) (hl : vs.size = cs.length)
      (h : ∀ (i : Nat) (y : IV) (z : Value), cs[i]? = some y → vs[i]? = some z → RepI E w y z) : RepI E w (.tup cs) (.tuple vs)
  | map0 : RepI E w (.map [] []) (.map none)
  | map (ks vs : List IV) (b : Nat) (es : Array MapEntry) (clock : Nat) (hE : ¬ E b) (hb : w.heap[b]? = some (.map es clock)) (hm : MapOk es clock) (hk : es.size = ks.length) (hv : es.size = vs.length)
      (hrk : ∀ (i : Nat) (e : MapEntry) (y : IV), es[i]? = some e → ks[i]? = some y → RepI E w y e.key)
      (hrv : ∀ (i : Nat) (e : MapEntry) (y : IV), es[i]? = some e → vs[i]? = some y → RepI E w y e.val) : RepI E w (.map ks vs) (.map (some b))

def Stay (E E' : Nat → Prop) (w w' : World) : Prop := w.heap.size ≤ w'.heap.size ∧ ∀ b, b < w.heap.size → ¬ E b → w'.heap[b]? = w.heap[b]? ∧ ¬ E' b

theorem Stay.refl (E : Nat → Prop) (w : World) : Stay E E w w := ⟨Nat.le_refl _, fun _ _ h => ⟨rfl, h⟩⟩
theorem Stay.trans {E E' E'' : Nat → Prop} {w w' w'' : World} (h : Stay E E' w w') (k : Stay E' E'' w' w'') : Stay E E'' w w'' :=
  ⟨Nat.le_trans h.1 k.1, fun b hb hE => by
    have h1 := h.2 b hb hE
    have h2 := k.2 b (Nat.lt_of_lt_of_le hb h.1) h1.2
    exact ⟨h2.1.trans h1.1, h2.2⟩⟩

theorem cell_of_heap {w w' : World} {b o : Nat} (h : w'.heap[b]? = w.heap[b]?) : w'.cell? ⟨b, o, none⟩ = w.cell? ⟨b, o, none⟩ :=
  World.cell?_of_block (w := w) h

theorem RepI.mono {E E' : Nat → Prop} {w w' : World} {x : IV} {v : Value} (h : RepI E w x v) (hw : Stay E E' w w') : RepI E' w' x v := by
  induction h with
  | bool b => exact .bool b
  | int k n => exact .int k n
  | str s => exact .str s
  | nilp => exact .nilp
  | fnc f => exact .fnc f
  | sl0 sz A c => exact .sl0 sz A c
  | sl sz xs b o c u hc hE hb hs hu hr ih =>
    have h1 := hw.2 b hb hE
    exact .sl sz xs b o c u hc h1.2 (Nat.lt_of_lt_of_le hb hw.1) hs (fun i j hi hj => (cell_of_heap h1.1).trans (hu i j hi hj)) ih
  | agg cs vs hl h ih => exact .agg cs vs hl ih
  | tup cs vs hl h ih => exact .tup cs vs hl ih
  | map0 => exact .map0
  | map ks vs b es clock hE hb hm hk hv hrk hrv ihk ihv =>
    have h1 := hw.2 b (Array.getElem?_eq_some_iff.1 hb).1 hE
    exact .map ks vs b es clock h1.2 (h1.1.trans hb) hm hk hv ihk ihv

inductive AV where
  | any
  | iv (x : IV)
  | nilsl
  | msl (k off len n : Nat)
  | mp (k off : Nat)
  | rp (k n i c : Nat)
  | ip (sz : Nat) (xs : List IV) (i c : Nat)
  | agg (cs : List AV)
  | tup (vs : List AV)
  | fn (f : Nat) (caps : List AV)
  | mr (k : Nat)
  | it (k : Nat)
  deriving Inhabited

inductive OD where
  | map (m : Bool) (ks : List IV) (vs : List AV)
  | miter (x : AV) (n : Nat) (sn : List Nat)
  | siter (s : ByteArray) (pos : Nat)
  deriving Inhabited
def OD.isMap : OD → Bool
  | .map .. => true
  | _ => false
def OD.mut : OD → Bool
  | .map m _ _ => m
  | _ => true

inductive MO where
  | row (m : Bool) (T : TypeId) (sz : Nat) (xs : List IV)
  | var (T : TypeId) (cs : List AV)
  | obj (d : OD)
  deriving Inhabited

def MO.mut : MO → Bool
  | .row m _ _ _ => m
  | .var _ _ => true
  | .obj d => d.mut

def SlFact (ρ : Nat → Option Nat) (w : World) (k : Nat) (T : TypeId) (sz off len n : Nat) (v : Value) : Prop :=
  off + len ≤ n ∧ ∃ A c, v = .slice A len c ∧ len ≤ c ∧
    match ρ k with
    | none => c = 0 ∧ n = 0
    | some b => (0 < c → A = some ⟨b, off * sz, none⟩) ∧ ∃ arr fz, w.heap[b]? = some (.cells arr T fz) ∧ (off + c) * sz ≤ arr.size

inductive RepA (M : List MO) (ρ : Nat → Option Nat) (E : Nat → Prop) (w : World) : AV → Value → Prop
  | any (v : Value) : RepA M ρ E w .any v
  | iv (x : IV) (v : Value) (h : RepI E w x v) : RepA M ρ E w (.iv x) v
  | nilsl (A : Option Addr) : RepA M ρ E w .nilsl (.slice A 0 0)
  | msl (k off len n : Nat) (v : Value) (m : Bool) (T : TypeId) (sz : Nat) (xs : List IV) (h : M[k]? = some (.row m T sz xs)) (hn : n ≤ xs.length) (hv : ∃ A l c, v = .slice A l c)
      (hf : n = xs.length → SlFact ρ w k T sz off len n v) : RepA M ρ E w (.msl k off len n) v
  | mp (k off : Nat) (T : TypeId) (cs : List AV) (b : Nat) (h : M[k]? = some (.var T cs)) (hb : ρ k = some b) : RepA M ρ E w (.mp k off) (.pointer (some ⟨b, off, none⟩))
  | rp (k n i c : Nat) (v : Value) (m : Bool) (T : TypeId) (sz : Nat) (xs : List IV) (h : M[k]? = some (.row m T sz xs)) (hn : n ≤ xs.length) (hv : ∃ A, v = .pointer A)
      (hf : n = xs.length → ∃ b, ρ k = some b ∧ v = .pointer (some ⟨b, i * sz + c, none⟩)) : RepA M ρ E w (.rp k n i c) v
  | ip (sz : Nat) (xs : List IV) (i c b o cap : Nat) (h : RepI E w (.sl sz xs) (.slice (some ⟨b, o, none⟩) xs.length cap)) (hi : i < xs.length) :
      RepA M ρ E w (.ip sz xs i c) (.pointer (some ⟨b, o + (i * sz + c), none⟩))
  | agg (cs : List AV) (vs : Array Value) (hl : vs.size = cs.length)
      (h : ∀ (i : Nat) (y : AV) (z : Value), cs[i]? = some y → vs[i]? = some z → RepA M ρ E w y z) : RepA M ρ E w (.agg cs) (.agg vs)
  | tup (cs : List AV) (vs : Array Value) (hl : vs.size = cs.length)
      (h : ∀ (i : Nat) (y : AV) (z : Value), cs[i]? = some y → vs[i]? = some z → RepA M ρ E w y z) : RepA M ρ E w (.tup cs) (.tuple vs)
  | fn (f : Nat) (caps : List AV) (vs : Array Value) (hl : vs.size = caps.length)
      (h : ∀ (i : Nat) (y : AV) (z : Value), caps[i]? = some y → vs[i]? = some z → RepA M ρ E w y z) : RepA M ρ E w (.fn f caps) (.func (.func f) #[] vs)
  | mr (k : Nat) (d : OD) (b : Nat) (h : M[k]? = some (.obj d)) (hd : d.isMap = true) (hb : ρ k = some b) : RepA M ρ E w (.mr k) (.map (some b))
  | it (k : Nat) (d : OD) (b : Nat) (h : M[k]? = some (.obj d)) (hd : d.isMap = false) (hb : ρ k = some b) : RepA M ρ E w (.it k) (.pointer (some ⟨b, 0, none⟩))

def slk : Nat → Nat
  | 1 => 0
  | _ => 1
def Unfrozen (arr : Array Value) (fz : Nat × Nat) (sz : Nat) : Prop := ∀ i, i < arr.size + slk sz → (decide (fz.1 ≤ i) && decide (i < fz.2)) = false

def OdRep (M : List MO) (ρ : Nat → Option Nat) (E : Nat → Prop) (w : World) (b : Nat) : OD → Prop
  | .map _ ks vs => ∃ es clock, w.heap[b]? = some (.map es clock) ∧ MapOk es clock ∧ es.size = ks.length ∧ es.size = vs.length ∧
      (∀ (i : Nat) (e : MapEntry) (y : IV), es[i]? = some e → ks[i]? = some y → RepI E w y e.key) ∧ (∀ (i : Nat) (e : MapEntry) (y : AV), es[i]? = some e → vs[i]? = some y → RepA M ρ E w y e.val)
  | .miter x n sn => ∃ o, w.heap[b]? = some (.mapIter o n sn.toArray n) ∧ RepA M ρ E w x (.map o)
  | .siter s pos => w.heap[b]? = some (.stringIter s pos)
theorem OdRep.data {M : List MO} {ρ : Nat → Option Nat} {E : Nat → Prop} {w : World} {b : Nat} {d : OD} (h : OdRep M ρ E w b d) : ∃ o, w.heap[b]? = some o ∧ dataO o = true := by
  cases d with
  | map m ks vs => obtain ⟨es, clock, h1, _⟩ := h; exact ⟨_, h1, rfl⟩
  | miter x n sn => obtain ⟨o, h1, _⟩ := h; exact ⟨_, h1, rfl⟩
  | siter s pos => exact ⟨_, h, rfl⟩
def ObjRep (M : List MO) (ρ : Nat → Option Nat) (E : Nat → Prop) (w : World) (k : Nat) : MO → Prop
  | .row _ T sz xs => (∀ (i : Nat) (x : IV), xs[i]? = some x → x.fits sz = true) ∧
    match ρ k with
    | none => xs = []
    | some b => ∃ arr fz, w.heap[b]? = some (.cells arr T fz) ∧ Unfrozen arr fz sz ∧ xs.length * sz ≤ arr.size ∧
        ∀ (i : Nat) (x : IV) (j : Nat) (y : IV), xs[i]? = some x → x.cells[j]? = some y → ∃ u, arr[i * sz + j]? = some u ∧ RepI E w y u
  | .var T cs => ∃ b arr fz, ρ k = some b ∧ w.heap[b]? = some (.cells arr T fz) ∧ Unfrozen arr fz 0 ∧ arr.size = cs.length ∧
      ∀ (i : Nat) (y : AV) (u : Value), cs[i]? = some y → arr[i]? = some u → RepA M ρ E w y u
  | .obj d => ∃ b, ρ k = some b ∧ OdRep M ρ E w b d

def excl (X : Nat → Prop) (M : List MO) (ρ : Nat → Option Nat) (b : Nat) : Prop := X b ∨ ∃ k o, M[k]? = some o ∧ o.mut = true ∧ ρ k = some b

structure Keep (O : Nat → Prop) (w0 w : World) : Prop where
  os : w.os = w0.os
  tape : w.tape = w0.tape
  output : w.output = w0.output
  size : w0.heap.size ≤ w.heap.size
  block : ∀ b, b < w0.heap.size → ¬ O b → w.heap[b]? = w0.heap[b]?

theorem Keep.refl (O : Nat → Prop) (w : World) : Keep O w w := ⟨rfl, rfl, rfl, Nat.le_refl _, fun _ _ _ => rfl⟩
theorem Keep.trans {O O' : Nat → Prop} {a b c : World} (h : Keep O a b) (k : Keep O' b c) (hO : ∀ x, x < a.heap.size → O' x → O x) : Keep O a c :=
  ⟨k.os.trans h.os, k.tape.trans h.tape, k.output.trans h.output, Nat.le_trans h.size k.size,
   fun x hx hn => (k.block x (Nat.lt_of_lt_of_le hx h.size) (fun h' => hn (hO x hx h'))).trans (h.block x hx hn)⟩
theorem Keep.below {w0 w : World} (h : Keep (fun _ => False) w0 w) : Below w0.heap.size w0 w := ⟨h.os, h.tape, h.output, h.size, fun k hk => h.block k hk (fun h => h)⟩
structure MemOk (X O : Nat → Prop) (w0 : World) (M : List MO) (ρ : Nat → Option Nat) (w : World) : Prop where
  obj : ∀ k o, M[k]? = some o → ObjRep M ρ (excl X M ρ) w k o
  inj : ∀ k k' b, k < M.length → k' < M.length → ρ k = some b → ρ k' = some b → k = k'
  own : ∀ k b, k < M.length → ρ k = some b → ¬ X b ∧ (O b ∨ w0.heap.size ≤ b)
  keep : Keep O w0 w
  ext : ∀ b, X b → b < w.heap.size

inductive AV.Sc (n : Nat) : AV → Prop
  | any : AV.Sc n .any
  | iv (x : IV) : AV.Sc n (.iv x)
  | nilsl : AV.Sc n .nilsl
  | msl (k off len m : Nat) (h : k < n) : AV.Sc n (.msl k off len m)
  | mp (k off : Nat) (h : k < n) : AV.Sc n (.mp k off)
  | rp (k m i c : Nat) (h : k < n) : AV.Sc n (.rp k m i c)
  | ip (sz : Nat) (xs : List IV) (i c : Nat) : AV.Sc n (.ip sz xs i c)
  | agg (cs : List AV) (h : ∀ (i : Nat) (y : AV), cs[i]? = some y → AV.Sc n y) : AV.Sc n (.agg cs)
  | tup (cs : List AV) (h : ∀ (i : Nat) (y : AV), cs[i]? = some y → AV.Sc n y) : AV.Sc n (.tup cs)
  | fn (f : Nat) (cs : List AV) (h : ∀ (i : Nat) (y : AV), cs[i]? = some y → AV.Sc n y) : AV.Sc n (.fn f cs)
  | mr (k : Nat) (h : k < n) : AV.Sc n (.mr k)
  | it (k : Nat) (h : k < n) : AV.Sc n (.it k)

theorem AV.Sc.mono {n m : Nat} (h : n ≤ m) {x : AV} (hx : AV.Sc n x) : AV.Sc m x := by
  induction hx with
  | any => exact .any
  | iv x => exact .iv x
  | nilsl => exact .nilsl
  | msl k off len j hk => exact .msl k off len j (by omega)
  | mp k off hk => exact .mp k off (by omega)
  | rp k j i c hk => exact .rp k j i c (by omega)
  | ip sz xs i c => exact .ip sz xs i c
  | agg cs _ ih => exact .agg cs ih
  | tup cs _ ih => exact .tup cs ih
  | fn f cs _ ih => exact .fn f cs ih
  | mr k hk => exact .mr k (by omega)
  | it k hk => exact .it k (by omega)

theorem RepA.sc {M : List MO} {ρ : Nat → Option Nat} {E : Nat → Prop} {w : World} {x : AV} {v : Value} (h : RepA M ρ E w x v) : AV.Sc M.length x := by
  induction h with
  | any v => exact .any
  | iv x v h => exact .iv x
  | nilsl A => exact .nilsl
  | msl k off len n v m T sz xs h hn hv hf => exact .msl k off len n (List.getElem?_eq_some_iff.1 h).1
  | mp k off T cs b h hb => exact .mp k off (List.getElem?_eq_some_iff.1 h).1
  | rp k n i c v m T sz xs h hn hv hf => exact .rp k n i c (List.getElem?_eq_some_iff.1 h).1
  | ip sz xs i c b o cap h hi => exact .ip sz xs i c
  | agg cs vs hl h ih => exact .agg cs (fun i y hy => by
      have hi := (List.getElem?_eq_some_iff.1 hy).1
      exact ih i y _ hy (Array.getElem?_eq_getElem (by omega)))
  | tup cs vs hl h ih => exact .tup cs (fun i y hy => by
      have hi := (List.getElem?_eq_some_iff.1 hy).1
      exact ih i y _ hy (Array.getElem?_eq_getElem (by omega)))
  | fn f cs vs hl h ih => exact .fn f cs (fun i y hy => by
      have hi := (List.getElem?_eq_some_iff.1 hy).1
      exact ih i y _ hy (Array.getElem?_eq_getElem (by omega)))
  | mr k d b h hd hb => exact .mr k (List.getElem?_eq_some_iff.1 h).1
  | it k d b h hd hb => exact .it k (List.getElem?_eq_some_iff.1 h).1

structure St where
  n : Nat
  t : Nat → AV
  M : List MO
  b : Nat

def marks (l : List Nat) : List Deferred := l.map (fun D => { target := .collected D, args := #[] })
def Dfr (X O : Nat → Prop) (w0 : World) (ds : List Deferred) (w : World) : Prop := ∃ l : List Nat, ds = marks l ∧ l.Nodup ∧ ∀ D, D ∈ l → ¬ X D ∧ (O D ∨ w0.heap.size ≤ D) ∧ w.heap[D]? = some (.deferred (some []))
theorem Dfr.nil (X O : Nat → Prop) (w0 w : World) : Dfr X O w0 [] w := ⟨[], rfl, List.nodup_nil, by simp⟩
theorem Dfr.keep {X O : Nat → Prop} {w0 w w' : World} {ds : List Deferred} (h : Dfr X O w0 ds w) (hk : ∀ D, ¬ X D → w.heap[D]? = some (.deferred (some [])) → w'.heap[D]? = w.heap[D]?) : Dfr X O w0 ds w' := by
  obtain ⟨l, h1, h2, h3⟩ := h
  exact ⟨l, h1, h2, fun D hD => ⟨(h3 D hD).1, (h3 D hD).2.1, (hk D (h3 D hD).1 (h3 D hD).2.2).trans (h3 D hD).2.2⟩⟩
theorem ObjRep.data {M : List MO} {ρ : Nat → Option Nat} {E : Nat → Prop} {w : World} {k b : Nat} {o : MO} (h : ObjRep M ρ E w k o) (hb : ρ k = some b) : ∃ o, w.heap[b]? = some o ∧ dataO o = true := by
  cases o with
  | row m T sz xs => obtain ⟨_, h⟩ := h; rw [hb] at h; obtain ⟨arr, fz, h1, _⟩ := h; exact ⟨_, h1, rfl⟩
  | var T cs => obtain ⟨b', arr, fz, h1, h2, _⟩ := h; rw [hb] at h1; cases h1; exact ⟨_, h2, rfl⟩
  | obj d => obtain ⟨b', h1, h2⟩ := h; rw [hb] at h1; cases h1; exact h2.data
theorem MemOk.data {X O : Nat → Prop} {w0 : World} {M : List MO} {ρ : Nat → Option Nat} {w : World} (h : MemOk X O w0 M ρ w) {k b : Nat} (hk : k < M.length) (hb : ρ k = some b) : ∃ o, w.heap[b]? = some o ∧ dataO o = true :=
  (h.obj k _ (List.getElem?_eq_getElem hk)).data hb
theorem MemOk.noDfr {X O : Nat → Prop} {w0 : World} {M : List MO} {ρ : Nat → Option Nat} {w : World} (h : MemOk X O w0 M ρ w) {D : Nat} (hX : ¬ X D) (hD : w.heap[D]? = some (.deferred (some []))) : ¬ excl X M ρ D := by
  rintro (hx | ⟨k, o, hk, _, hb⟩)
  · exact hX hx
  · obtain ⟨o, h1, h2⟩ := h.data (List.getElem?_eq_some_iff.1 hk).1 hb
    rw [hD] at h1; cases h1; cases h2

structure Sim (X O : Nat → Prop) (w0 : World) (F : AV → Value → Prop) (s : St) (ρ : Nat → Option Nat) (a : Act) (w : World) : Prop where
  size : a.tmps.size = s.n
  defers : Dfr X O w0 a.defers w
  tm : ∀ i, RepA s.M ρ (excl X s.M ρ) w (s.t i) (a.tmps.getD i undef)
  mem : MemOk X O w0 s.M ρ w
  fr : ∀ x u, F x u → AV.Sc s.b x ∧ RepA s.M ρ (excl X s.M ρ) w x u

structure Evo (M M' : List MO) (ρ ρ' : Nat → Option Nat) (E E' : Nat → Prop) (w w' : World) : Prop where
  stay : Stay E E' w w'
  var : ∀ k T cs, M[k]? = some (.var T cs) → ∃ cs', M'[k]? = some (.var T cs') ∧ ρ' k = ρ k
  oth : ∀ k d, M[k]? = some (.obj d) → ∃ d', M'[k]? = some (.obj d') ∧ d'.isMap = d.isMap ∧ ρ' k = ρ k
  row : ∀ k m T sz xs, M[k]? = some (.row m T sz xs) → ∃ m' xs', M'[k]? = some (.row m' T sz xs') ∧ xs.length ≤ xs'.length ∧
    (xs.length = xs'.length → ρ' k = ρ k ∧ ∀ b arr fz, ρ k = some b → w.heap[b]? = some (.cells arr T fz) → ∃ arr' fz', w'.heap[b]? = some (.cells arr' T fz') ∧ arr.size ≤ arr'.size)

theorem RepA.mono {M M' : List MO} {ρ ρ' : Nat → Option Nat} {E E' : Nat → Prop} {w w' : World} {x : AV} {v : Value} (h : RepA M ρ E w x v) (hw : Evo M M' ρ ρ' E E' w w') :
    RepA M' ρ' E' w' x v := by
  induction h with
  | any v => exact .any v
  | iv x v h => exact .iv x v (h.mono hw.stay)
  | nilsl A => exact .nilsl A
  | msl k off len n v m T sz xs h hn hv hf =>
    obtain ⟨m', xs', h1, h2, h3⟩ := hw.row k m T sz xs h
    refine .msl k off len n v m' T sz xs' h1 (Nat.le_trans hn h2) hv (fun e => ?_)
    have e1 : n = xs.length := by omega
    have e2 : xs.length = xs'.length := by omega
    obtain ⟨h4, A, c, hv, hlc, h5⟩ := hf e1
    obtain ⟨hρ, h6⟩ := h3 e2
    refine ⟨h4, A, c, hv, hlc, ?_⟩
    rw [hρ]
    cases hk : ρ k with
    | none => rw [hk] at h5; exact h5
    | some b =>
      rw [hk] at h5
      obtain ⟨h7, arr, fz, h8, h9⟩ := h5
      obtain ⟨arr', fz', h10, h11⟩ := h6 b arr fz hk h8
      exact ⟨h7, arr', fz', h10, Nat.le_trans h9 h11⟩
  | mp k off T cs b h hb =>
    obtain ⟨cs', h1, h2⟩ := hw.var k T cs h
    exact .mp k off T cs' b h1 (h2.trans hb)
  | rp k n i c v m T sz xs h hn hv hf =>
    obtain ⟨m', xs', h1, h2, h3⟩ := hw.row k m T sz xs h
    refine .rp k n i c v m' T sz xs' h1 (Nat.le_trans hn h2) hv (fun e => ?_)
    have e1 : n = xs.length := by omega
    obtain ⟨b, hb, hv⟩ := hf e1
    exact ⟨b, (h3 (by omega)).1.trans hb, hv⟩
  | ip sz xs i c b o cap h hi => exact .ip sz xs i c b o cap (h.mono hw.stay) hi
  | agg cs vs hl h ih => exact .agg cs vs hl ih
  | tup cs vs hl h ih => exact .tup cs vs hl ih
  | fn f caps vs hl h ih => exact .fn f caps vs hl ih
  | mr k d b h hd hb =>
    obtain ⟨d', h1, h2, h3⟩ := hw.oth k d h
    exact .mr k d' b h1 (h2.trans hd) (h3.trans hb)
  | it k d b h hd hb =>
    obtain ⟨d', h1, h2, h3⟩ := hw.oth k d h
    exact .it k d' b h1 (h2.trans hd) (h3.trans hb)

end Go.Proofs.YtpjncojljamacaaGreat.AM
set_option linter.unusedVariables false
set_option linter.unusedSimpArgs false
namespace Go.Proofs.YtpjncojljamacaaGreat.AM
open Go Go.RowKit

theorem OdRep.mono {M M' : List MO} {ρ ρ' : Nat → Option Nat} {E E' : Nat → Prop} {w w' : World} {b : Nat} {d : OD} (h : OdRep M ρ E w b d) (hw : Evo M M' ρ ρ' E E' w w') (hb : w'.heap[b]? = w.heap[b]?) : OdRep M' ρ' E' w' b d := by
  cases d with
  | map m ks vs =>
    obtain ⟨es, clock, h1, h2, h3, h4, h5, h6⟩ := h
    exact ⟨es, clock, hb.trans h1, h2, h3, h4, fun i e y he hy => (h5 i e y he hy).mono hw.stay, fun i e y he hy => (h6 i e y he hy).mono hw⟩
  | miter x n sn => obtain ⟨o, h1, h2⟩ := h; exact ⟨o, hb.trans h1, h2.mono hw⟩
  | siter s pos => exact hb.trans h
theorem ObjRep.mono {M M' : List MO} {ρ ρ' : Nat → Option Nat} {E E' : Nat → Prop} {w w' : World} {k : Nat} {o : MO} (h : ObjRep M ρ E w k o) (hw : Evo M M' ρ ρ' E E' w w')
    (hρ : ρ' k = ρ k) (hb : ∀ b, ρ k = some b → w'.heap[b]? = w.heap[b]?) : ObjRep M' ρ' E' w' k o := by
  cases o with
  | row m T sz xs =>
    obtain ⟨h1, h2⟩ := h
    refine ⟨h1, ?_⟩
    rw [hρ]
    cases hk : ρ k with
    | none => rw [hk] at h2; exact h2
    | some b =>
      rw [hk] at h2
      obtain ⟨arr, fz, h3, h4, h5, h6⟩ := h2
      refine ⟨arr, fz, (hb b hk).trans h3, h4, h5, fun i x j y hx hy => ?_⟩
      obtain ⟨u, hu, hr⟩ := h6 i x j y hx hy
      exact ⟨u, hu, hr.mono hw.stay⟩
  | var T cs =>
    obtain ⟨b, arr, fz, h1, h2, h3, h4, h5⟩ := h
    exact ⟨b, arr, fz, hρ.trans h1, (hb b h1).trans h2, h3, h4, fun i y u hy hu => (h5 i y u hy hu).mono hw⟩
  | obj d =>
    obtain ⟨b, h1, h2⟩ := h
    exact ⟨b, hρ.trans h1, h2.mono hw (hb b h1)⟩

structure But (k : Nat) (M M' : List MO) (ρ ρ' : Nat → Option Nat) (w w' : World) : Prop where
  len : M.length ≤ M'.length
  oth : ∀ j o, j ≠ k → M'[j]? = some o → M[j]? = some o ∧ ρ' j = ρ j ∧ ∀ b, ρ j = some b → w'.heap[b]? = w.heap[b]?

theorem lt_of_get {α : Type} {M : List α} {k : Nat} {o : α} (h : M[k]? = some o) : k < M.length := (List.getElem?_eq_some_iff.1 h).1

theorem MemOk.change {X O : Nat → Prop} {w0 : World} {M M' : List MO} {ρ ρ' : Nat → Option Nat} {w w' : World} (h : MemOk X O w0 M ρ w) (k : Nat)
    (hev : Evo M M' ρ ρ' (excl X M ρ) (excl X M' ρ') w w') (hbut : But k M M' ρ ρ' w w')
    (hk : ∀ o, M'[k]? = some o → ObjRep M' ρ' (excl X M' ρ') w' k o)
    (hi : ∀ b, ρ' k = some b → k < M'.length → (∀ j, j ≠ k → j < M'.length → ρ' j ≠ some b) ∧ ¬ X b ∧ (O b ∨ w0.heap.size ≤ b))
    (hkeep : Keep O w0 w') (hext : w.heap.size ≤ w'.heap.size) : MemOk X O w0 M' ρ' w' where
  obj j o hj := by
    by_cases e : j = k
    · subst e; exact hk o hj
    · obtain ⟨h1, h2, h3⟩ := hbut.oth j o e hj
      exact (h.obj j o h1).mono hev h2 h3
  inj i j b hiM hjM hib hjb := by
    by_cases e : i = k
    · subst e
      by_cases e2 : j = i
      · exact e2.symm
      · exact absurd hjb ((hi b hib hiM).1 j e2 hjM)
    · by_cases e2 : j = k
      · subst e2; exact absurd hib ((hi b hjb hjM).1 i e hiM)
      · obtain ⟨oi, hoi⟩ : ∃ o, M'[i]? = some o := ⟨_, List.getElem?_eq_getElem hiM⟩
        obtain ⟨oj, hoj⟩ : ∃ o, M'[j]? = some o := ⟨_, List.getElem?_eq_getElem hjM⟩
        obtain ⟨a1, a2, _⟩ := hbut.oth i oi e hoi
        obtain ⟨b1, b2, _⟩ := hbut.oth j oj e2 hoj
        exact h.inj i j b (lt_of_get a1) (lt_of_get b1) (a2 ▸ hib) (b2 ▸ hjb)
  own j b hj hjb := by
    by_cases e : j = k
    · subst e; exact (hi b hjb hj).2
    · obtain ⟨oj, hoj⟩ : ∃ o, M'[j]? = some o := ⟨_, List.getElem?_eq_getElem hj⟩
      obtain ⟨b1, b2, _⟩ := hbut.oth j oj e hoj
      exact h.own j b (lt_of_get b1) (b2 ▸ hjb)
  keep := hkeep
  ext b hb := Nat.lt_of_lt_of_le (h.ext b hb) hext

structure News (w w' : World) (o : Obj) : Prop where
  os : w'.os = w.os
  tape : w'.tape = w.tape
  output : w'.output = w.output
  heap : w'.heap = w.heap.push o

theorem News.old {w w' : World} {o : Obj} (h : News w w' o) {b : Nat} (hb : b < w.heap.size) : w'.heap[b]? = w.heap[b]? := by
  rw [h.heap, Array.getElem?_push, if_neg (by omega)]
theorem News.new {w w' : World} {o : Obj} (h : News w w' o) : w'.heap[w.heap.size]? = some o := by
  rw [h.heap, Array.getElem?_push, if_pos rfl]
theorem News.size {w w' : World} {o : Obj} (h : News w w' o) : w'.heap.size = w.heap.size + 1 := by rw [h.heap, Array.size_push]
theorem News.keep {O : Nat → Prop} {w0 w w' : World} {o : Obj} (h : News w w' o) (k : Keep O w0 w) : Keep O w0 w' :=
  ⟨h.os.trans k.os, h.tape.trans k.tape, h.output.trans k.output, by rw [h.size]; have := k.size; omega,
   fun b hb hO => (h.old (Nat.lt_of_lt_of_le hb k.size)).trans (k.block b hb hO)⟩

structure Wrote (w w' : World) (b : Nat) : Prop where
  os : w'.os = w.os
  tape : w'.tape = w.tape
  output : w'.output = w.output
  size : w'.heap.size = w.heap.size
  oth : ∀ j, j ≠ b → w'.heap[j]? = w.heap[j]?

theorem Wrote.refl (w : World) (b : Nat) : Wrote w w b := ⟨rfl, rfl, rfl, rfl, fun _ _ => rfl⟩
theorem Wrote.trans {w w' w'' : World} {b : Nat} (h : Wrote w w' b) (k : Wrote w' w'' b) : Wrote w w'' b :=
  ⟨k.os.trans h.os, k.tape.trans h.tape, k.output.trans h.output, k.size.trans h.size, fun j hj => (k.oth j hj).trans (h.oth j hj)⟩
theorem Wrote.keep {O : Nat → Prop} {w0 w w' : World} {b : Nat} (h : Wrote w w' b) (k : Keep O w0 w) (hb : O b ∨ w0.heap.size ≤ b) : Keep O w0 w' :=
  ⟨h.os.trans k.os, h.tape.trans k.tape, h.output.trans k.output, by rw [h.size]; exact k.size,
   fun j hj hO => (h.oth j (by rintro rfl; rcases hb with hb | hb <;> first | exact hO hb | omega)).trans (k.block j hj hO)⟩

def updρ (ρ : Nat → Option Nat) (k : Nat) (b : Option Nat) : Nat → Option Nat := fun j => if j = k then b else ρ j
theorem updρ_same (ρ : Nat → Option Nat) (k : Nat) (b : Option Nat) : updρ ρ k b k = b := by simp [updρ]
theorem updρ_ne (ρ : Nat → Option Nat) {k j : Nat} (b : Option Nat) (h : j ≠ k) : updρ ρ k b j = ρ j := by simp [updρ, h]

theorem get_append_old {α : Type} {M N : List α} {k : Nat} {o : α} (h : M[k]? = some o) : (M ++ N)[k]? = some o := by
  rw [List.getElem?_append_left (lt_of_get h)]; exact h

theorem Evo.push {X : Nat → Prop} {M : List MO} {ρ : Nat → Option Nat} {w w' : World} (o : MO) (b : Option Nat)
    (hs : w.heap.size ≤ w'.heap.size) (hold : ∀ j, j < w.heap.size → w'.heap[j]? = w.heap[j]?) (hb : ∀ x, b = some x → w.heap.size ≤ x) :
    Evo M (M ++ [o]) ρ (updρ ρ M.length b) (excl X M ρ) (excl X (M ++ [o]) (updρ ρ M.length b)) w w' where
  stay := ⟨hs, fun j hj hE => ⟨hold j hj, by
    rintro (hX | ⟨k, o', hk, hm, hρ⟩)
    · exact hE (.inl hX)
    · by_cases e : k = M.length
      · subst e; rw [updρ_same] at hρ; have := hb j hρ; omega
      · rw [updρ_ne _ _ e] at hρ
        rw [List.getElem?_append] at hk
        split at hk
        · exact hE (.inr ⟨k, o', hk, hm, hρ⟩)
        · have : k - M.length ≠ 0 := by omega
          rw [List.getElem?_singleton, if_neg this] at hk; cases hk⟩⟩
  var k T cs hk := ⟨cs, get_append_old hk, updρ_ne _ _ (by have := lt_of_get hk; omega)⟩
  oth k d hk := ⟨d, get_append_old hk, rfl, updρ_ne _ _ (by have := lt_of_get hk; omega)⟩
  row k m T sz xs hk := ⟨m, xs, get_append_old hk, Nat.le_refl _, fun _ => ⟨updρ_ne _ _ (by have := lt_of_get hk; omega),
    fun c arr fz hc hh => ⟨arr, fz, (hold c (by
      rcases Nat.lt_or_ge c w.heap.size with h | h
      · exact h
      · rw [Array.getElem?_eq_none h] at hh; cases hh)).trans hh, Nat.le_refl _⟩⟩⟩

theorem MemOk.lt {X O : Nat → Prop} {w0 : World} {M : List MO} {ρ : Nat → Option Nat} {w : World} (h : MemOk X O w0 M ρ w) {k b : Nat} (hk : k < M.length) (hb : ρ k = some b) : b < w.heap.size := by
  obtain ⟨o, ho⟩ : ∃ o, M[k]? = some o := ⟨_, List.getElem?_eq_getElem hk⟩
  obtain ⟨o', h1, _⟩ := (h.obj k o ho).data hb
  exact (Array.getElem?_eq_some_iff.1 h1).1

theorem MemOk.push {X O : Nat → Prop} {w0 : World} {M : List MO} {ρ : Nat → Option Nat} {w w' : World} (h : MemOk X O w0 M ρ w) (o : MO) (b : Option Nat)
    (hkeep : Keep O w0 w') (hs : w.heap.size ≤ w'.heap.size) (hold : ∀ j, j < w.heap.size → w'.heap[j]? = w.heap[j]?) (hb : ∀ x, b = some x → w.heap.size ≤ x)
    (ho : ObjRep (M ++ [o]) (updρ ρ M.length b) (excl X (M ++ [o]) (updρ ρ M.length b)) w' M.length o) : MemOk X O w0 (M ++ [o]) (updρ ρ M.length b) w' := by
  refine h.change M.length (Evo.push o b hs hold hb) ⟨by simp, fun j o' hj ho' => ?_⟩ (fun o' ho' => ?_) (fun x hx _ => ?_) hkeep hs
  · rw [List.getElem?_append] at ho'
    split at ho'
    · refine ⟨ho', updρ_ne _ _ hj, fun c hc => hold c (h.lt (by assumption) hc)⟩
    · have : j - M.length ≠ 0 := by omega
      rw [List.getElem?_singleton, if_neg this] at ho'; cases ho'
  · simp at ho'; subst ho'; exact ho
  · rw [updρ_same] at hx
    have hx' := hb x hx
    refine ⟨fun j hj hjM e => ?_, fun hX => ?_, .inr ?_⟩
    · rw [updρ_ne _ _ hj] at e
      have := h.lt (by simp at hjM; omega) e
      omega
    · have := h.ext x hX; omega
    · have := h.keep.size; omega

theorem Evo.set {X : Nat → Prop} {M : List MO} {ρ : Nat → Option Nat} {w w' : World} (k b : Nat) (o o' : MO) (hk : M[k]? = some o) (hb : ρ k = some b) (hm : o.mut = true) (hwr : Wrote w w' b)
    (hkind : match o, o' with
      | .var T _, .var T' _ => T = T'
      | .row _ T sz xs, .row _ T' sz' xs' => T = T' ∧ sz = sz' ∧ xs.length ≤ xs'.length ∧ ∀ arr fz, w.heap[b]? = some (.cells arr T fz) → ∃ arr' fz', w'.heap[b]? = some (.cells arr' T fz') ∧ arr.size ≤ arr'.size
      | .obj d, .obj d' => d'.isMap = d.isMap
      | _, _ => False)
    (hinj : ∀ j, j ≠ k → j < M.length → ρ j ≠ some b) :
    Evo M (M.set k o') ρ ρ (excl X M ρ) (excl X (M.set k o') ρ) w w' where
  stay := ⟨by rw [hwr.size]; exact Nat.le_refl _, fun j hj hE => by
    have hjb : j ≠ b := fun e => hE (.inr ⟨k, o, hk, hm, by rw [hb, e]⟩)
    refine ⟨hwr.oth j hjb, ?_⟩
    rintro (hX | ⟨i, o2, hi, hm2, hρ⟩)
    · exact hE (.inl hX)
    · by_cases e : i = k
      · subst e; rw [hb] at hρ; cases hρ; exact hjb rfl
      · rw [List.getElem?_set_ne (Ne.symm e)] at hi
        exact hE (.inr ⟨i, o2, hi, hm2, hρ⟩)⟩
  var i T cs hi := by
    by_cases e : i = k
    · subst e
      rw [hk] at hi; cases hi
      have hlt := lt_of_get hk
      cases o' with
      | row => exact hkind.elim
      | obj => exact hkind.elim
      | var T' cs' => simp only at hkind; subst hkind; exact ⟨cs', by rw [List.getElem?_set_self hlt], rfl⟩
    · exact ⟨cs, by rw [List.getElem?_set_ne (Ne.symm e)]; exact hi, rfl⟩
  oth i d hi := by
    by_cases e : i = k
    · subst e
      rw [hk] at hi; cases hi
      have hlt := lt_of_get hk
      cases o' with
      | row => exact hkind.elim
      | var => exact hkind.elim
      | obj d' => exact ⟨d', by rw [List.getElem?_set_self hlt], hkind, rfl⟩
    · exact ⟨d, by rw [List.getElem?_set_ne (Ne.symm e)]; exact hi, rfl, rfl⟩
  row i m T sz xs hi := by
    by_cases e : i = k
    · subst e
      rw [hk] at hi; cases hi
      have hlt := lt_of_get hk
      cases o' with
      | var => exact hkind.elim
      | obj => exact hkind.elim
      | row m' T' sz' xs' =>
        simp only at hkind
        obtain ⟨rfl, rfl, h3, h4⟩ := hkind
        refine ⟨m', xs', by rw [List.getElem?_set_self hlt], h3, fun _ => ⟨rfl, fun c arr fz hc hh => ?_⟩⟩
        rw [hb] at hc; cases hc
        exact h4 arr fz hh
    · refine ⟨m, xs, by rw [List.getElem?_set_ne (Ne.symm e)]; exact hi, Nat.le_refl _, fun _ => ⟨rfl, fun c arr fz hc hh => ⟨arr, fz, ?_, Nat.le_refl _⟩⟩⟩
      have : c ≠ b := fun e2 => hinj i e (lt_of_get hi) (e2 ▸ hc)
      exact (hwr.oth c this).trans hh

theorem MemOk.set {X O : Nat → Prop} {w0 : World} {M : List MO} {ρ : Nat → Option Nat} {w w' : World} (h : MemOk X O w0 M ρ w) (k b : Nat) (o o' : MO) (hk : M[k]? = some o) (hb : ρ k = some b)
    (hwr : Wrote w w' b) (hev : Evo M (M.set k o') ρ ρ (excl X M ρ) (excl X (M.set k o') ρ) w w')
    (ho : ObjRep (M.set k o') ρ (excl X (M.set k o') ρ) w' k o') : MemOk X O w0 (M.set k o') ρ w' := by
  have hlt := lt_of_get hk
  refine h.change k hev ⟨by simp, fun j o2 hj ho2 => ?_⟩ (fun o2 ho2 => ?_) (fun x hx _ => ?_) (hwr.keep h.keep (h.own k b hlt hb).2) (by rw [hwr.size]; exact Nat.le_refl _)
  · rw [List.getElem?_set_ne (Ne.symm hj)] at ho2
    refine ⟨ho2, rfl, fun c hc => hwr.oth c (fun e => ?_)⟩
    subst e; exact hj (h.inj j k c (lt_of_get ho2) hlt hc hb)
  · rw [List.getElem?_set_self hlt] at ho2; cases ho2; exact ho
  · rw [hb] at hx; cases hx
    refine ⟨fun j hj hjM e => hj (h.inj j k b (by simpa using hjM) hlt e hb), h.own k b hlt hb⟩

theorem MemOk.other {X O : Nat → Prop} {w0 : World} {M : List MO} {ρ : Nat → Option Nat} {w : World} (h : MemOk X O w0 M ρ w) {k b : Nat} (hk : k < M.length) (hb : ρ k = some b) :
    ∀ j, j ≠ k → j < M.length → ρ j ≠ some b := fun j hj hjM e => hj (h.inj j k b hjM hk e hb)

theorem Evo.moved {X : Nat → Prop} {M : List MO} {ρ : Nat → Option Nat} {w w' : World} (k : Nat) (T : TypeId) (sz : Nat) (xs xs' : List IV) (x : Obj) (hk : M[k]? = some (.row true T sz xs)) (hl : xs.length < xs'.length)
    (hn : News w w' x) :
    Evo M (M.set k (.row true T sz xs')) ρ (updρ ρ k (some w.heap.size)) (excl X M ρ) (excl X (M.set k (.row true T sz xs')) (updρ ρ k (some w.heap.size))) w w' where
  stay := ⟨by rw [hn.size]; omega, fun j hj hE => ⟨hn.old hj, by
    rintro (hX | ⟨i, o2, hi, hm2, hρ⟩)
    · exact hE (.inl hX)
    · by_cases e : i = k
      · subst e; rw [updρ_same] at hρ; cases hρ; omega
      · rw [List.getElem?_set_ne (Ne.symm e)] at hi
        rw [updρ_ne _ _ e] at hρ
        exact hE (.inr ⟨i, o2, hi, hm2, hρ⟩)⟩⟩
  var i T' cs hi := by
    have e : i ≠ k := fun e => by subst e; rw [hk] at hi; cases hi
    exact ⟨cs, by rw [List.getElem?_set_ne (Ne.symm e)]; exact hi, updρ_ne _ _ e⟩
  oth i d hi := by
    have e : i ≠ k := fun e => by subst e; rw [hk] at hi; cases hi
    exact ⟨d, by rw [List.getElem?_set_ne (Ne.symm e)]; exact hi, rfl, updρ_ne _ _ e⟩
  row i m T' sz' ys hi := by
    by_cases e : i = k
    · subst e
      rw [hk] at hi; cases hi
      exact ⟨true, xs', by rw [List.getElem?_set_self (lt_of_get hk)], Nat.le_of_lt hl, fun e => absurd e (by omega)⟩
    · refine ⟨m, ys, by rw [List.getElem?_set_ne (Ne.symm e)]; exact hi, Nat.le_refl _, fun _ => ⟨updρ_ne _ _ e, fun c arr fz hc hh => ⟨arr, fz, ?_, Nat.le_refl _⟩⟩⟩
      have : c < w.heap.size := (Array.getElem?_eq_some_iff.1 hh).1
      exact (hn.old this).trans hh

theorem MemOk.moved {X O : Nat → Prop} {w0 : World} {M : List MO} {ρ : Nat → Option Nat} {w w' : World} (h : MemOk X O w0 M ρ w) (k : Nat) (T : TypeId) (sz : Nat) (xs xs' : List IV) (x : Obj) (hk : M[k]? = some (.row true T sz xs))
    (hl : xs.length < xs'.length) (hn : News w w' x)
    (ho : ObjRep (M.set k (.row true T sz xs')) (updρ ρ k (some w.heap.size)) (excl X (M.set k (.row true T sz xs')) (updρ ρ k (some w.heap.size))) w' k (.row true T sz xs')) :
    MemOk X O w0 (M.set k (.row true T sz xs')) (updρ ρ k (some w.heap.size)) w' := by
  have hlt := lt_of_get hk
  refine h.change k (Evo.moved k T sz xs xs' x hk hl hn) ⟨by simp, fun j o2 hj ho2 => ?_⟩ (fun o2 ho2 => ?_) (fun y hy _ => ?_) (hn.keep h.keep) (by rw [hn.size]; omega)
  · rw [List.getElem?_set_ne (Ne.symm hj)] at ho2
    exact ⟨ho2, updρ_ne _ _ hj, fun c hc => hn.old (h.lt (lt_of_get ho2) hc)⟩
  · rw [List.getElem?_set_self hlt] at ho2; cases ho2; exact ho
  · rw [updρ_same] at hy; cases hy
    refine ⟨fun j hj hjM e => ?_, fun hX => ?_, .inr h.keep.size⟩
    · rw [updρ_ne _ _ hj] at e
      have := h.lt (by simpa using hjM) e; omega
    · have := h.ext _ hX; omega

theorem Evo.freeze {X : Nat → Prop} {M : List MO} {ρ : Nat → Option Nat} {w : World} (k : Nat) (m : Bool) (T : TypeId) (sz : Nat) (xs : List IV) (hk : M[k]? = some (.row m T sz xs)) :
    Evo M (M.set k (.row false T sz xs)) ρ ρ (excl X M ρ) (excl X (M.set k (.row false T sz xs)) ρ) w w where
  stay := ⟨Nat.le_refl _, fun j hj hE => ⟨rfl, by
    rintro (hX | ⟨i, o2, hi, hm2, hρ⟩)
    · exact hE (.inl hX)
    · by_cases e : i = k
      · subst e; rw [List.getElem?_set_self (lt_of_get hk)] at hi; cases hi; cases hm2
      · rw [List.getElem?_set_ne (Ne.symm e)] at hi
        exact hE (.inr ⟨i, o2, hi, hm2, hρ⟩)⟩⟩
  var i T' cs hi := by
    have e : i ≠ k := fun e => by subst e; rw [hk] at hi; cases hi
    exact ⟨cs, by rw [List.getElem?_set_ne (Ne.symm e)]; exact hi, rfl⟩
  oth i d hi := by
    have e : i ≠ k := fun e => by subst e; rw [hk] at hi; cases hi
    exact ⟨d, by rw [List.getElem?_set_ne (Ne.symm e)]; exact hi, rfl, rfl⟩
  row i m' T' sz' ys hi := by
    by_cases e : i = k
    · subst e
      rw [hk] at hi; cases hi
      exact ⟨false, xs, by rw [List.getElem?_set_self (lt_of_get hk)], Nat.le_refl _, fun _ => ⟨rfl, fun c arr fz hc hh => ⟨arr, fz, hh, Nat.le_refl _⟩⟩⟩
    · exact ⟨m', ys, by rw [List.getElem?_set_ne (Ne.symm e)]; exact hi, Nat.le_refl _, fun _ => ⟨rfl, fun c arr fz hc hh => ⟨arr, fz, hh, Nat.le_refl _⟩⟩⟩

theorem MemOk.freeze {X O : Nat → Prop} {w0 : World} {M : List MO} {ρ : Nat → Option Nat} {w : World} (h : MemOk X O w0 M ρ w) (k : Nat) (m : Bool) (T : TypeId) (sz : Nat) (xs : List IV) (hk : M[k]? = some (.row m T sz xs)) :
    MemOk X O w0 (M.set k (.row false T sz xs)) ρ w := by
  have hlt := lt_of_get hk
  have hev := Evo.freeze (X := X) (ρ := ρ) (w := w) k m T sz xs hk
  refine h.change k hev ⟨by simp, fun j o2 hj ho2 => ?_⟩ (fun o2 ho2 => ?_) (fun y hy _ => ?_) h.keep (Nat.le_refl _)
  · rw [List.getElem?_set_ne (Ne.symm hj)] at ho2
    exact ⟨ho2, rfl, fun c hc => rfl⟩
  · rw [List.getElem?_set_self hlt] at ho2; cases ho2
    have h1 := (h.obj k _ hk).mono hev rfl (fun _ _ => rfl)
    exact h1
  · exact ⟨fun j hj hjM e => hj (h.inj j k y (by simpa using hjM) hlt e hy), h.own k y hlt hy⟩

theorem Evo.freezeM {X : Nat → Prop} {M : List MO} {ρ : Nat → Option Nat} {w : World} (k : Nat) (m : Bool) (ks : List IV) (vs : List AV) (hk : M[k]? = some (.obj (.map m ks vs))) :
    Evo M (M.set k (.obj (.map false ks vs))) ρ ρ (excl X M ρ) (excl X (M.set k (.obj (.map false ks vs))) ρ) w w where
  stay := ⟨Nat.le_refl _, fun j hj hE => ⟨rfl, by
    rintro (hX | ⟨i, o2, hi, hm2, hρ⟩)
    · exact hE (.inl hX)
    · by_cases e : i = k
      · subst e; rw [List.getElem?_set_self (lt_of_get hk)] at hi; cases hi; cases hm2
      · rw [List.getElem?_set_ne (Ne.symm e)] at hi
        exact hE (.inr ⟨i, o2, hi, hm2, hρ⟩)⟩⟩
  var i T' cs hi := by
    have e : i ≠ k := fun e => by subst e; rw [hk] at hi; cases hi
    exact ⟨cs, by rw [List.getElem?_set_ne (Ne.symm e)]; exact hi, rfl⟩
  oth i d hi := by
    by_cases e : i = k
    · subst e
      rw [hk] at hi; cases hi
      exact ⟨.map false ks vs, by rw [List.getElem?_set_self (lt_of_get hk)], rfl, rfl⟩
    · exact ⟨d, by rw [List.getElem?_set_ne (Ne.symm e)]; exact hi, rfl, rfl⟩
  row i m' T' sz' ys hi := by
    have e : i ≠ k := fun e => by subst e; rw [hk] at hi; cases hi
    exact ⟨m', ys, by rw [List.getElem?_set_ne (Ne.symm e)]; exact hi, Nat.le_refl _, fun _ => ⟨rfl, fun c arr fz hc hh => ⟨arr, fz, hh, Nat.le_refl _⟩⟩⟩
theorem MemOk.freezeM {X O : Nat → Prop} {w0 : World} {M : List MO} {ρ : Nat → Option Nat} {w : World} (h : MemOk X O w0 M ρ w) (k : Nat) (m : Bool) (ks : List IV) (vs : List AV) (hk : M[k]? = some (.obj (.map m ks vs))) :
    MemOk X O w0 (M.set k (.obj (.map false ks vs))) ρ w := by
  have hlt := lt_of_get hk
  have hev := Evo.freezeM (X := X) (ρ := ρ) (w := w) k m ks vs hk
  refine h.change k hev ⟨by simp, fun j o2 hj ho2 => ?_⟩ (fun o2 ho2 => ?_) (fun y hy _ => ?_) h.keep (Nat.le_refl _)
  · rw [List.getElem?_set_ne (Ne.symm hj)] at ho2
    exact ⟨ho2, rfl, fun c hc => rfl⟩
  · rw [List.getElem?_set_self hlt] at ho2; cases ho2
    have h1 := (h.obj k _ hk).mono hev rfl (fun _ _ => rfl)
    exact h1
  · exact ⟨fun j hj hjM e => hj (h.inj j k y (by simpa using hjM) hlt e hy), h.own k y hlt hy⟩

theorem Evo.world {M : List MO} {ρ : Nat → Option Nat} {E : Nat → Prop} {w w' : World} (hs : w.heap.size ≤ w'.heap.size) (hold : ∀ j, j < w.heap.size → w'.heap[j]? = w.heap[j]?) : Evo M M ρ ρ E E w w' where
  stay := ⟨hs, fun j hj hE => ⟨hold j hj, hE⟩⟩
  var k T cs hk := ⟨cs, hk, rfl⟩
  oth k d hk := ⟨d, hk, rfl, rfl⟩
  row k m T sz xs hk := ⟨m, xs, hk, Nat.le_refl _, fun _ => ⟨rfl, fun c arr fz hc hh => ⟨arr, fz, (hold c ((Array.getElem?_eq_some_iff.1 hh).1)).trans hh, Nat.le_refl _⟩⟩⟩

theorem MemOk.world {X O : Nat → Prop} {w0 : World} {M : List MO} {ρ : Nat → Option Nat} {w w' : World} (h : MemOk X O w0 M ρ w) (hk : Keep O w0 w')
    (hs : w.heap.size ≤ w'.heap.size) (hold : ∀ j, j < w.heap.size → w'.heap[j]? = w.heap[j]?) : MemOk X O w0 M ρ w' where
  obj j o hj := (h.obj j o hj).mono (Evo.world hs hold) rfl (fun b hb => hold b (h.lt (lt_of_get hj) hb))
  inj := h.inj
  own := h.own
  keep := hk
  ext b hb := Nat.lt_of_lt_of_le (h.ext b hb) hs

end Go.Proofs.YtpjncojljamacaaGreat.AM
set_option linter.unusedVariables false
set_option linter.unusedSimpArgs false
namespace Go.Proofs.YtpjncojljamacaaGreat.AM
open Go Go.RowKit

/-! ### types, in short -/
def tAgg (P : Program) (t : TypeId) : Option (Option Nat) :=
  match P.underlying t, P.info? t with
  | some (.struct _), some i => some (some i.size)
  | some (.array _ _), some i => some (some i.size)
  | some _, some i => some none
  | _, _ => none
def tSize (P : Program) (t : TypeId) : Option Nat := (P.info? t).map (·.size)
structure Elem where
  T : TypeId
  sz : Nat
  bytes : Nat
  zero : Value
def tElem (P : Program) (t : TypeId) : Option Elem :=
  match P.underlying t with
  | some (.slice e) => (P.info? e).bind fun i => i.zero.bind fun z => if z.cells.size = i.size ∧ 0 < i.size ∧ 0 < i.bytes then some ⟨e, i.size, i.bytes, z⟩ else none
  | _ => none
def tZero (P : Program) (t : TypeId) : Option Value := (P.info? t).bind (·.zero)
def tField (P : Program) (t : TypeId) (f : Nat) : Option (Nat × TypeId) :=
  match P.underlying t with
  | some (.struct fs) => (fs[f]?).bind fun d => (P.info? d.type).bind fun i => if i.size = 0 then none else some (d.offset, d.type)
  | _ => none
def placesOf (P : Program) : List Field → Option (List (Nat × Nat))
  | [] => some []
  | f :: l => (P.info? f.type).bind fun i => (placesOf P l).map fun r => (f.offset, i.size) :: r
def tPlaces (P : Program) (t : TypeId) : Option (List (Nat × Nat)) :=
  match P.underlying t with
  | some (.struct fs) => placesOf P fs.toList
  | some (.array n e) => (P.info? e).map fun i => (List.range n).map fun k => (k * i.size, i.size)
  | _ => none
def tArr (P : Program) (t : TypeId) : Option (Nat × TypeId × Nat) :=
  match P.underlying t with
  | some (.array n e) => (P.info? e).bind fun i => if 1 < n then some (n, e, i.size) else none
  | _ => none
inductive Kd where | bool | int (k : IntKind) | str | ptr | slc | map | oth
def tKind (P : Program) (t : TypeId) : Option Kd :=
  match P.underlying t with
  | some .bool => some .bool
  | some (.int k) => some (.int k)
  | some .string => some .str
  | some (.pointer _) => some .ptr
  | some (.slice _) => some .slc
  | some (.map _ _) => some .map
  | some _ => some .oth
  | none => none

/-! ### constants -/
def constCell : Value → AV
  | .bool b => .iv (.bool b)
  | .int k n => .iv (.int k n)
  | .string s => .iv (.str s)
  | .pointer none => .iv .nilp
  | .slice none 0 0 => .nilsl
  | .map none => .iv (.map [] [])
  | _ => .any
def ivs : List AV → Option (List IV)
  | [] => some []
  | .iv x :: l => (ivs l).map (x :: ·)
  | _ :: _ => none
def mkAgg (cs : List AV) : AV := match ivs cs with
  | some l => .iv (.agg l)
  | none => .agg cs
def constAV : Value → AV
  | .agg cs => mkAgg (cs.toList.map constCell)
  | v => constCell v
def constIVcell : Value → Option IV
  | .bool b => some (.bool b)
  | .int k n => some (.int k n)
  | .string s => some (.str s)
  | .pointer none => some .nilp
  | .slice none 0 0 => some (.sl 0 [])
  | .map none => some (.map [] [])
  | _ => none
def constIV : Value → Option IV
  | .agg cs => (cs.toList.mapM constIVcell).map .agg
  | v => constIVcell v

def AV.cells : AV → Option (List AV)
  | .iv (.agg cs) => some (cs.map .iv)
  | .agg cs => some cs
  | .iv (.tup _) => none
  | .any => none
  | .tup _ => none
  | x => some [x]

def zcells : Value → Option (List AV)
  | .nilFunc => some [.any]
  | z => (constAV z).cells
def AV.one : AV → Bool
  | .iv x => x.one
  | .any => false
  | .agg _ => false
  | .tup _ => false
  | _ => true

/-! ### numbers -/
def bitI (op : BinOp) (k : IntKind) (a b : Int) : Int :=
  match op with
  | .and => k.wrap (BitVec.ofInt k.bits a &&& BitVec.ofInt k.bits b).toNat
  | .or => k.wrap (BitVec.ofInt k.bits a ||| BitVec.ofInt k.bits b).toNat
  | .xor => k.wrap (BitVec.ofInt k.bits a ^^^ BitVec.ofInt k.bits b).toNat
  | _ => k.wrap (BitVec.ofInt k.bits a &&& ~~~ BitVec.ofInt k.bits b).toNat
def numBin (op : BinOp) (k : IntKind) (a b : Int) : Option IV :=
  match op with
  | .add => some (.int k (k.wrap (a + b)))
  | .sub => some (.int k (k.wrap (a - b)))
  | .mul => some (.int k (k.wrap (a * b)))
  | .quo => if b = 0 then none else some (.int k (k.wrap (a.tdiv b)))
  | .rem => if b = 0 then none else some (.int k (a.tmod b))
  | .and => some (.int k (bitI .and k a b))
  | .or => some (.int k (bitI .or k a b))
  | .xor => some (.int k (bitI .xor k a b))
  | .andNot => some (.int k (bitI .andNot k a b))
  | .eql => some (.bool (a == b))
  | .neq => some (.bool (a != b))
  | .lss => some (.bool (decide (a < b)))
  | .leq => some (.bool (decide (a ≤ b)))
  | .gtr => some (.bool (decide (a > b)))
  | .geq => some (.bool (decide (a ≥ b)))
  | _ => none
def shiftI (op : BinOp) (k : IntKind) (a b : Int) : Option IV :=
  if b < 0 then none else
    match op with
    | .shl => some (.int k (k.wrap (a * 2 ^ (min b.toNat k.bits))))
    | .shr => some (.int k (a.fdiv (2 ^ (min b.toNat k.bits))))
    | _ => none
def strBin (op : BinOp) (x y : ByteArray) : Option IV :=
  match op with
  | .add => if x.size + y.size ≤ 9223372036854775807 then some (.str (x ++ y)) else none
  | .eql => some (.bool (x.toList == y.toList))
  | .neq => some (.bool (!(x.toList == y.toList)))
  | .lss => some (.bool (Op.bytesLess x.toList y.toList))
  | .leq => some (.bool (Op.bytesLess x.toList y.toList || x.toList == y.toList))
  | .gtr => some (.bool (!(Op.bytesLess x.toList y.toList || x.toList == y.toList)))
  | .geq => some (.bool (!(Op.bytesLess x.toList y.toList)))
  | _ => none
def isShift : BinOp → Bool | .shl => true | .shr => true | _ => false
def binAV (P : Program) (op : BinOp) (t : TypeId) (x y : AV) : Option IV :=
  match x, y with
  | .iv (.int k a), .iv (.int k' b) => if isShift op then shiftI op k a b else if k = k' then numBin op k a b else none
  | .iv (.str a), .iv (.str b) => strBin op a b
  | .iv (.bool a), .iv (.bool b) =>
    match tKind P t, op with
    | some .bool, .eql => some (.bool (a == b))
    | some .bool, .neq => some (.bool (!(a == b)))
    | _, _ => none
  | .mp _ _, .iv .nilp =>
    match tKind P t, op with
    | some .ptr, .eql => some (.bool false)
    | some .ptr, .neq => some (.bool true)
    | _, _ => none
  | .iv .nilp, .iv .nilp =>
    match tKind P t, op with
    | some .ptr, .eql => some (.bool true)
    | some .ptr, .neq => some (.bool false)
    | _, _ => none
  | _, _ => none
def unAV (op : UnOp) (x : AV) : Option IV :=
  match op, x with
  | .not, .iv (.bool b) => some (.bool (!b))
  | .neg, .iv (.int k n) => some (.int k (k.wrap (0 - n)))
  | .xor, .iv (.int k n) => some (.int k (bitI .xor k (if k.signed then -1 else k.max) n))
  | _, _ => none

/-! ### memory -/
def rowAt (M : List MO) (k n : Nat) : Option (Bool × TypeId × Nat × List IV) :=
  match M[k]? with
  | some (.row m T sz xs) => if n = xs.length then some (m, T, sz, xs) else none
  | _ => none
def elemPart (ag : Option Nat) (x : IV) (c : Nat) : Option IV :=
  match ag with
  | none => x.cells[c]?
  | some n => if c + n ≤ x.cells.length then some (.agg ((x.cells.drop c).take n)) else none
def varPart (ag : Option Nat) (cs : List AV) (off : Nat) : Option AV :=
  match ag with
  | none => cs[off]?
  | some n => if off + n ≤ cs.length then some (mkAgg ((cs.drop off).take n)) else none
def setCells {α : Type} (cs : List α) (off : Nat) : List α → List α
  | [x] => cs.set off x
  | xs => cs.take off ++ xs ++ cs.drop (off + xs.length)
def cellF (M : List MO) : AV → Option (IV × List MO)
  | .iv (.agg _) => none
  | .iv (.tup _) => none
  | .iv x => some (x, M)
  | .nilsl => some (.sl 0 [], M)
  | .msl k off len n => (rowAt M k n).bind fun (_, T, sz, xs) => if off + len ≤ n then some (.sl sz ((xs.drop off).take len), M.set k (.row false T sz xs)) else none
  | .mr k => match M[k]? with
    | some (.obj (.map _ ks vs)) => (ivs vs).map fun l => (.map ks l, M.set k (.obj (.map false ks vs)))
    | _ => none
  | _ => none
def cellsF (M : List MO) : List AV → Option (List IV × List MO)
  | [] => some ([], M)
  | x :: l => (cellF M x).bind fun (y, M') => (cellsF M' l).map fun (ys, M'') => (y :: ys, M'')
def toIVF (M : List MO) : AV → Option (IV × List MO)
  | .iv (.tup _) => none
  | .iv x => some (x, M)
  | .agg cs => (cellsF M cs).map fun (ys, M') => (.agg ys, M')
  | x => cellF M x
def idx : AV → Option Int
  | .iv (.int _ j) => some j
  | _ => none
def bound (x : Option AV) (dflt : Nat) : Option Int := match x with
  | none => some dflt
  | some v => idx v
def sliceAV (P : Program) (t : TypeId) (M : List MO) (x : AV) (lo hi mx : Option AV) : Option AV :=
  match x with
  | .iv (.str s) =>
    if tKind P t matches some .str then
      match mx with
      | some _ => none
      | none => (bound lo 0).bind fun l => (bound hi s.size).bind fun h => if 0 ≤ l ∧ l ≤ h ∧ h ≤ s.size then some (.iv (.str (s.extract l.toNat h.toNat))) else none
    else none
  | .iv (.sl sz xs) =>
    (tElem P t).bind fun e => (bound lo 0).bind fun l => (bound hi xs.length).bind fun h =>
      match mx with
      | none => if (sz = e.sz ∨ xs = []) ∧ 0 ≤ l ∧ l ≤ h ∧ h ≤ xs.length then some (.iv (.sl sz ((xs.drop l.toNat).take (h.toNat - l.toNat)))) else none
      | some m => (idx m).bind fun m =>
        if (sz = e.sz ∨ xs = []) ∧ 0 ≤ l ∧ l ≤ h ∧ h ≤ m ∧ m ≤ xs.length then some (if m = l then .nilsl else .iv (.sl sz ((xs.drop l.toNat).take (h.toNat - l.toNat)))) else none
  | .msl k off len n =>
    (tElem P t).bind fun e => (rowAt M k n).bind fun (_, _, sz, _) => (bound lo 0).bind fun l => (bound hi len).bind fun h =>
      match mx with
      | none => if sz = e.sz ∧ 0 ≤ l ∧ l ≤ h ∧ h ≤ len then some (.msl k (off + l.toNat) (h.toNat - l.toNat) n) else none
      | some m => (idx m).bind fun m => if sz = e.sz ∧ 0 ≤ l ∧ l = h ∧ h = m ∧ m ≤ len then some .nilsl else none
  | .nilsl => (tElem P t).bind fun e => (bound lo 0).bind fun l => (bound hi 0).bind fun h =>
      match mx with
      | none => if l = 0 ∧ h = 0 then some .nilsl else none
      | some m => (idx m).bind fun m => if l = 0 ∧ h = 0 ∧ m = 0 then some .nilsl else none
  | _ => none
def elems (M : List MO) (sz : Nat) : AV → Option (List IV)
  | .iv (.sl sz' xs) => if sz' = sz ∨ xs = [] then some xs else none
  | .nilsl => some []
  | .msl k off len n => (rowAt M k n).bind fun (_, _, sz', xs) => if sz' = sz ∧ off + len ≤ n then some ((xs.drop off).take len) else none
  | .iv (.str s) => if sz = 1 then some (s.data.toList.map fun b => .int .u8 b.toNat) else none
  | _ => none
def lenAV (M : List MO) : AV → Option Nat
  | .iv (.sl _ xs) => some xs.length
  | .nilsl => some 0
  | .msl k off len n => (rowAt M k n).bind fun _ => if off + len ≤ n then some len else none
  | .iv (.str s) => some s.size
  | _ => none
def putElem (sz : Nat) (x : IV) (c : Nat) (y : IV) : Option IV :=
  if c = 0 ∧ y.fits sz = true then some y
  else match x with
    | .agg cs => if c + y.cells.length ≤ cs.length ∧ y.cells.all IV.one = true then some (.agg (setCells cs c y.cells)) else none
    | _ => none
def fillAV (place : Nat → Option (Nat × Nat)) (cells : List AV) : List (Nat × AV) → Option (List AV)
  | [] => some cells
  | (i, v) :: rest => (place i).bind fun (off, size) => v.cells.bind fun cs => if cs.length ≠ size ∨ off + size > cells.length then none else fillAV place (setCells cells off cs) rest
def fillRow : List IV → List (Nat × IV) → Option (List IV)
  | xs, [] => some xs
  | xs, (i, v) :: rest => if i < xs.length then fillRow (xs.set i v) rest else none
def partsF (M : List MO) : List (Nat × AV) → Option (List (Nat × IV) × List MO)
  | [] => some ([], M)
  | (i, x) :: l => (toIVF M x).bind fun (y, M') => (partsF M' l).map fun (ys, M'') => ((i, y) :: ys, M'')

def nilCmp (P : Program) (op : BinOp) (t : TypeId) (y : Operand) (u : AV) : Option Bool :=
  match y with
  | .const (.slice none 0 0) =>
    match tKind P t, u with
    | some .slc, .iv (.sl _ xs) => if 0 < xs.length then (match op with | .eql => some false | .neq => some true | _ => none) else none
    | _, _ => none
  | _ => none

inductive Cls where | p | r | w
  deriving DecidableEq

def appendAV (M : List MO) (e : Elem) (s x : AV) : Option (AV × List MO) :=
  match s with
  | .nilsl => (elems M e.sz x).bind fun ys => if ys.length * e.bytes ≤ 140737488355328 then some (.msl M.length 0 ys.length ys.length, M ++ [.row true e.T e.sz ys]) else none
  | .msl k off len n => (elems M e.sz x).bind fun ys =>
      match M[k]? with
      | some (.row true T sz xs) => if n = xs.length ∧ off = 0 ∧ len = n ∧ sz = e.sz ∧ T = e.T ∧ (n + ys.length) * e.bytes ≤ 140737488355328 then
          some (.msl k 0 (n + ys.length) (n + ys.length), M.set k (.row true T sz (xs ++ ys))) else none
      | _ => none
  | _ => none

def minAll (k : IntKind) : Int → List AV → Option Int
  | a, [] => some a
  | a, .iv (.int k' b) :: l => if k = k' then minAll k (min a b) l else none
  | _, _ => none
def maxAll (k : IntKind) : Int → List AV → Option Int
  | a, [] => some a
  | a, .iv (.int k' b) :: l => if k = k' then maxAll k (max a b) l else none
  | _, _ => none

def clearAV (P : Program) (ts : List TypeId) (args : List AV) (M : List MO) : Option (Cls × AV × List MO) :=
  match ts, args with
  | t :: _, [d] => (tElem P t).bind fun e => (constIV e.zero).bind fun z =>
    match d with
    | .msl k off len n =>
      match M[k]? with
      | some (.row true T sz xs) => if n = xs.length ∧ off + len ≤ n ∧ sz = e.sz ∧ T = e.T ∧ z.fits e.sz = true then
          some (.w, .iv (.tup []), M.set k (.row true T sz (xs.take off ++ List.replicate len z ++ xs.drop (off + len)))) else none
      | _ => none
    | _ => none
  | _, _ => none
def mapOf (M : List MO) : AV → Option (List IV × List AV)
  | .iv (.map ks vs) => some (ks, vs.map .iv)
  | .mr k => match M[k]? with
    | some (.obj (.map _ ks vs)) => some (ks, vs)
    | _ => none
  | _ => none
def builtin0 (P : Program) (b : Builtin) (ts : List TypeId) (args : List AV) (M : List MO) : Option (Cls × AV × List MO) :=
  match b, ts, args with
  | .len, t :: _, [x] =>
    match tKind P t with
    | some .slc => match x with | .iv (.str _) => none | _ => (lenAV M x).map fun (n : Nat) => (.r, .iv (.int .i64 (n : Int)), M)
    | some .str => match x with | .iv (.str s) => some (.p, .iv (.int .i64 s.size), M) | _ => none
    | some .map => (mapOf M x).map fun (ks, _) => (.r, .iv (.int .i64 (ks.length : Int)), M)
    | _ => none
  | .append, t :: t2 :: _, [s, x] =>
    match tKind P t2 with
    | some .slc | some .str => (tElem P t).bind fun e => (appendAV M e s x).map fun (v, M') => (.w, v, M')
    | _ => none
  | .min, _, .iv (.int k a) :: l => (minAll k a l).map fun c => (.p, .iv (.int k c), M)
  | .max, _, .iv (.int k a) :: l => (maxAll k a l).map fun c => (.p, .iv (.int k c), M)
  | .copy, t :: _, [d, x] => (tElem P t).bind fun e => (elems M e.sz x).bind fun ys =>
    match d with
    | .msl k off len n =>
      match M[k]? with
      | some (.row true T sz xs) => if n = xs.length ∧ off + len ≤ n ∧ sz = e.sz ∧ T = e.T then
          some (.w, .iv (.int .i64 (min ys.length len : Nat)), M.set k (.row true T sz (xs.take off ++ ys.take (min ys.length len) ++ xs.drop (off + min ys.length len)))) else none
      | _ => none
    | _ => none
  | _, _, _ => none

def builtinAV (P : Program) (b : Builtin) (ts : List TypeId) (args : List AV) (M : List MO) : Option (Cls × AV × List MO) :=
  match b with
  | .clear => clearAV P ts args M
  | b => builtin0 P b ts args M

def convAV (P : Program) (src dst : TypeId) (x : AV) (M : List MO) : Option (Cls × AV × List MO) :=
  match tKind P dst, x with
  | some (.int k), .iv (.int _ n) => if (tKind P src).isSome then some (.p, .iv (.int k (k.wrap n)), M) else none
  | some .str, .iv (.str s) => if (tKind P src).isSome then some (.p, .iv (.str s), M) else none
  | _, _ => none

def bytesOf? : List IV → Option (List UInt8)
  | [] => some []
  | .int .u8 n :: l => (bytesOf? l).map (UInt8.ofNat n.toNat :: ·)
  | _ :: _ => none
def isU8 (P : Program) (t : TypeId) : Bool := match tKind P t with
  | some (.int .u8) => true
  | _ => false
def AV.isStr : AV → Bool
  | .iv (.str _) => true
  | _ => false
def strOf (P : Program) (src dst : TypeId) (x : AV) (M : List MO) : Option (Cls × AV × List MO) :=
  match tKind P dst, tElem P src with
  | some .str, some e => if isU8 P e.T = true ∧ x.isStr = false then (elems M 1 x).bind fun ys => (bytesOf? ys).map fun l => (.r, .iv (.str ⟨l.toArray⟩), M) else none
  | _, _ => none

/-! ### maps -/
def tMapK (P : Program) (t : TypeId) : Option (Kd × TypeId) := match P.underlying t with
  | some (.map k e) => match tKind P k with
    | some (.int q) => some (.int q, e)
    | some .str => some (.str, e)
    | _ => none
  | _ => none
def keyIV (kd : Kd) (x : AV) : Option IV := match kd, x with
  | .int _, .iv (.int k n) => some (.int k n)
  | .str, .iv (.str s) => some (.str s)
  | _, _ => none
def keyEq : IV → IV → Option Bool
  | .int k a, .int k' b => if k = k' then some (decide (a = b)) else none
  | .str a, .str b => some (decide (a = b))
  | _, _ => none
def findK (key : IV) : List IV → Nat → Option (Option Nat)
  | [], _ => some none
  | k :: ks, i => match keyEq key k with
    | some true => some (some i)
    | some false => findK key ks (i + 1)
    | none => none
def zeroIV (P : Program) (t : TypeId) : Option AV := (tZero P t).bind fun z => (constIV z).map .iv
def lookAV (P : Program) (e : TypeId) (vs : List AV) : Option Nat → Option (AV × Bool)
  | some j => (vs[j]?).map fun v => (v, true)
  | none => (zeroIV P e).map fun v => (v, false)
def okAV (ok : Bool) (v : AV) (b : Bool) : AV := if ok then .tup [v, .iv (.bool b)] else v
def updM (key : IV) (v : AV) (ks : List IV) (vs : List AV) : Option Nat → OD
  | some j => .map true ks (vs.set j v)
  | none => .map true (ks ++ [key]) (vs ++ [v])
def nextV (x : AV) (M : List MO) : Option (Cls × AV × List MO) := match x with
  | .it k => match M[k]? with
    | some (.obj (.siter s pos)) => if pos < s.size then some (.w, .iv (.tup [.bool true, .int .i64 pos, .int .i32 (Utf8.decode s pos).1]), M.set k (.obj (.siter s (pos + (Utf8.decode s pos).2)))) else some (.w, .iv (.tup [.bool false]), M)
    | _ => none
  | _ => none
def nextEV (x : AV) (M : List MO) : Option (Cls × AV × List MO) := match x with
  | .it k => match M[k]? with
    | some (.obj (.miter y n sn)) => (mapOf M y).bind fun q => if q.1.length = n ∧ (∀ i, i < n → i ∈ sn) then some (.w, .iv (.tup [.bool false]), M) else none
    | _ => none
  | _ => none
def effM (P : Program) (o : Oper) (ev : Operand → AV) (M : List MO) : Option (Cls × AV × List MO) :=
  match o.op with
  | .makeMap t none => (tMapK P t).map fun _ => (.w, .mr M.length, M ++ [.obj (.map true [] [])])
  | .lookup t x i ok => (tMapK P t).bind fun (kd, e) => (keyIV kd (ev i)).bind fun key => (mapOf M (ev x)).bind fun (ks, vs) => (findK key ks 0).bind fun r => (lookAV P e vs r).map fun (v, b) => (.r, okAV ok v b, M)
  | .mapUpdate t m k x => (tMapK P t).bind fun (kd, e) => (keyIV kd (ev k)).bind fun key =>
    match ev m with
    | .mr j => match M[j]? with
      | some (.obj (.map true ks vs)) => (findK key ks 0).map fun r => (.w, .any, M.set j (.obj (updM key (ev x) ks vs r)))
      | _ => none
    | _ => none
  | .range t x => match tKind P t, ev x with
    | some .str, .iv (.str s) => some (.w, .it M.length, M ++ [.obj (.siter s 0)])
    | some .map, x => (mapOf M x).map fun (ks, _) => (.w, .it M.length, M ++ [.obj (.miter x ks.length [])])
    | _, _ => none
  | .next x true => nextV (ev x) M
  | .next x false => nextEV (ev x) M
  | .entry x => match ev x with
    | .it k => match M[k]? with
      | some (.obj (.miter y n sn)) => (mapOf M y).bind fun (ks, vs) => if ks.length = n then (sn.getLast?).bind fun i => (ks[i]?).bind fun key => (vs[i]?).map fun v => (.r, .tup [.iv key, v], M) else none
      | _ => none
    | _ => none
  | _ => none

def eff (P : Program) (o : Oper) (ev : Operand → AV) (M : List MO) : Option (Cls × AV × List MO) :=
  match o.op with
  | .move x => some (.p, ev x, M)
  | .assign x =>
    match x with
    | .const (.slice none 0 0) => (tElem P o.type).map fun e => (.w, .msl M.length 0 0 0, M ++ [.row true e.T e.sz []])
    | x => some (.p, ev x, M)
  | .pick c a b => match ev c with
    | .iv (.bool t) => some (.p, if t then ev a else ev b, M)
    | _ => none
  | .alloc T => (tZero P T).bind fun z => (zcells z).map fun cs => (.w, .mp M.length 0, M ++ [.var T cs])
  | .box T x => (ev x).cells.map fun cs => (.w, .mp M.length 0, M ++ [.var T cs])
  | .build t parts =>
    (tZero P t).bind fun z => (constAV z).cells.bind fun cs =>
      (tPlaces P t).bind fun pl => (fillAV (fun i => pl[i]?) cs (parts.toList.map fun (i, x) => (i, ev x))).map fun cs => (.p, mkAgg cs, M)
  | .buildSlice t len parts =>
    (tElem P t).bind fun e => (constIV e.zero).bind fun z =>
      if len * e.sz ≤ 16777216 ∧ z.fits e.sz = true then
        (partsF M (parts.toList.map fun (i, x) => (i, ev x))).bind fun (ps, M') =>
          if ps.all (fun p => p.2.fits e.sz) then
            (fillRow (List.replicate len z) ps).map fun xs => (.w, .msl M'.length 0 len len, M' ++ [.row true e.T e.sz xs])
          else none
      else none
  | .load t a => (tAgg P t).bind fun ag =>
    match ev a with
    | .mp k off => match M[k]? with
      | some (.var _ cs) => (varPart ag cs off).map fun v => (.r, v, M)
      | _ => none
    | .rp k n i c => (rowAt M k n).bind fun (_, _, _, xs) => (xs[i]?).bind fun x => (elemPart ag x c).map fun v => (.r, .iv v, M)
    | .ip _ xs i c => (xs[i]?).bind fun x => (elemPart ag x c).map fun v => (.p, .iv v, M)
    | _ => none
  | .store t a x => (tSize P t).bind fun n =>
    match ev a with
    | .mp k off => match M[k]? with
      | some (.var T cs) => (ev x).cells.bind fun ys => if ys.length = n ∧ off + n ≤ cs.length ∧ ys.all AV.one = true then some (.w, .any, M.set k (.var T (setCells cs off ys))) else none
      | _ => none
    | .rp k m i c => (toIVF M (ev x)).bind fun (y, M') =>
      match M'[k]? with
      | some (.row true T sz xs) => if m = xs.length ∧ y.cells.length = n then
          (xs[i]?).bind fun old => (putElem sz old c y).map fun z => (.w, .any, M'.set k (.row true T sz (xs.set i z))) else none
      | _ => none
    | _ => none
  | .nilCheck x => match ev x with
    | .mp k off => some (.p, .mp k off, M)
    | .ip sz xs i c => some (.p, .ip sz xs i c, M)
    | .rp k n i c => (rowAt M k n).map fun _ => (.r, .rp k n i c, M)
    | .fn f cs => some (.p, .fn f cs, M)
    | .iv (.fnc f) => some (.p, .iv (.fnc f), M)
    | _ => none
  | .binOp op t x y _ => match nilCmp P op t y (ev x) with
    | some b => some (.p, .iv (.bool b), M)
    | none => (binAV P op t (ev x) (ev y)).map fun v => (.p, .iv v, M)
  | .unOp op _ x => (unAV op (ev x)).map fun v => (.p, .iv v, M)
  | .convert src dst x => match convAV P src dst (ev x) M with
    | some r => some r
    | none => strOf P src dst (ev x) M
  | .makeFunc (.func f) first caps => if first.isEmpty then some (.p, if caps.isEmpty then .iv (.fnc f) else .fn f (caps.toList.map ev), M) else none
  | .makeSlice t l c =>
    match ev l, ev c with
    | .iv (.int _ n), .iv (.int _ m) => (tElem P t).bind fun e => (constIV e.zero).bind fun z =>
      if 0 ≤ n ∧ n = m ∧ n * e.bytes ≤ 140737488355328 ∧ z.fits e.sz = true then some (.w, .msl M.length 0 n.toNat n.toNat, M ++ [.row true e.T e.sz (List.replicate n.toNat z)]) else none
    | _, _ => none
  | .slice t x lo hi mx => if mx.isSome = true ∧ hi.isSome = false then none else (sliceAV P t M (ev x) (lo.map ev) (hi.map ev) (mx.map ev)).map fun v => (.r, v, M)
  | .fieldAddr s x f => (tField P s f).bind fun (off, _) =>
    match ev x with
    | .mp k o => some (.p, .mp k (o + off), M)
    | .ip sz xs i c => some (.p, .ip sz xs i (c + off), M)
    | .rp k n i c => (rowAt M k n).map fun _ => (.r, .rp k n i (c + off), M)
    | _ => none
  | .field s x f => (tField P s f).bind fun (off, ft) => (tAgg P ft).bind fun ag =>
    match ev x with
    | .iv (.agg cs) => (elemPart ag (.agg cs) off).map fun v => (.p, .iv v, M)
    | .agg cs => (varPart ag cs off).map fun v => (.p, v, M)
    | _ => none
  | .indexAddr t x i => (idx (ev i)).bind fun j =>
    match ev x with
    | .iv (.sl sz xs) => (tElem P t).bind fun e => if 0 ≤ j ∧ j < xs.length ∧ sz = e.sz then some (.p, .ip sz xs j.toNat 0, M) else none
    | .msl k off len n => (tElem P t).bind fun e => (rowAt M k n).bind fun (_, _, sz, _) => if 0 ≤ j ∧ j < len ∧ sz = e.sz then some (.r, .rp k n (off + j.toNat) 0, M) else none
    | .mp k off => (tArr P t).bind fun (n, _, sz) => if 0 ≤ j ∧ j < n then some (.p, .mp k (off + j.toNat * sz), M) else none
    | _ => none
  | .index t x i => (idx (ev i)).bind fun j =>
    match ev x with
    | .iv (.str s) => if tKind P t matches some .str then if 0 ≤ j ∧ j < s.size then some (.p, .iv (.int .u8 (s.data.toList.getD j.toNat 0).toNat), M) else none else none
    | .iv (.agg cs) => (tArr P t).bind fun (n, et, sz) => (tAgg P et).bind fun ag => if 0 ≤ j ∧ j < n then (elemPart ag (.agg cs) (j.toNat * sz)).map fun v => (.p, .iv v, M) else none
    | _ => none
  | .extract x i => match ev x with
    | .iv (.tup vs) => (vs[i]?).map fun v => (.p, .iv v, M)
    | .tup vs => (vs[i]?).map fun v => (.p, v, M)
    | _ => none
  | .call c => match c.callee with
    | .builtin b => builtinAV P b c.argTypes.toList (c.args.toList.map ev) M
    | _ => none
  | _ => effM P o ev M

end Go.Proofs.YtpjncojljamacaaGreat.AM
set_option linter.unusedVariables false
set_option linter.unusedSimpArgs false
namespace Go.Proofs.YtpjncojljamacaaGreat.AM
open Go Go.RowKit

section
variable {P : Program} {X O : Nat → Prop} {w0 : World} {M : List MO} {ρ : Nat → Option Nat} {E : Nat → Prop} {w : World}

theorem inv_int {k : IntKind} {n : Int} {v : Value} (h : RepA M ρ E w (.iv (.int k n)) v) : v = .int k n := by cases h with | iv _ _ h => cases h; rfl
theorem inv_bool {b : Bool} {v : Value} (h : RepA M ρ E w (.iv (.bool b)) v) : v = .bool b := by cases h with | iv _ _ h => cases h; rfl
theorem inv_str {s : ByteArray} {v : Value} (h : RepA M ρ E w (.iv (.str s)) v) : v = .string s := by cases h with | iv _ _ h => cases h; rfl
theorem inv_nilp {v : Value} (h : RepA M ρ E w (.iv .nilp) v) : v = .pointer none := by cases h with | iv _ _ h => cases h; rfl
theorem inv_fnc {f : Nat} {v : Value} (h : RepA M ρ E w (.iv (.fnc f)) v) : v = .func (.func f) #[] #[] := by cases h with | iv _ _ h => cases h; rfl
theorem inv_mp {k off : Nat} {v : Value} (h : RepA M ρ E w (.mp k off) v) : ∃ T cs b, M[k]? = some (.var T cs) ∧ ρ k = some b ∧ v = .pointer (some ⟨b, off, none⟩) := by
  cases h with | mp _ _ T cs b h hb => exact ⟨T, cs, b, h, hb, rfl⟩
theorem inv_nilsl {v : Value} (h : RepA M ρ E w .nilsl v) : ∃ A, v = .slice A 0 0 := by cases h with | nilsl A => exact ⟨A, rfl⟩
theorem inv_agg {cs : List AV} {v : Value} (h : RepA M ρ E w (.agg cs) v) : ∃ vs, v = .agg vs ∧ vs.size = cs.length ∧ ∀ (i : Nat) (y : AV) (z : Value), cs[i]? = some y → vs[i]? = some z → RepA M ρ E w y z := by
  cases h with | agg _ vs hl h => exact ⟨vs, rfl, hl, h⟩
theorem inv_ivagg {cs : List IV} {v : Value} (h : RepA M ρ E w (.iv (.agg cs)) v) : ∃ vs, v = .agg vs ∧ vs.size = cs.length ∧ ∀ (i : Nat) (y : IV) (z : Value), cs[i]? = some y → vs[i]? = some z → RepI E w y z := by
  cases h with | iv _ _ h => cases h with | agg _ vs hl h => exact ⟨vs, rfl, hl, h⟩
theorem inv_rep_agg {cs : List IV} {v : Value} (h : RepI E w (.agg cs) v) : ∃ vs, v = .agg vs ∧ vs.size = cs.length ∧ ∀ (i : Nat) (y : IV) (z : Value), cs[i]? = some y → vs[i]? = some z → RepI E w y z := by
  cases h with | agg _ vs hl h => exact ⟨vs, rfl, hl, h⟩
theorem inv_rep_tup {cs : List IV} {v : Value} (h : RepI E w (.tup cs) v) : ∃ vs, v = .tuple vs ∧ vs.size = cs.length ∧ ∀ (i : Nat) (y : IV) (z : Value), cs[i]? = some y → vs[i]? = some z → RepI E w y z := by
  cases h with | tup _ vs hl h => exact ⟨vs, rfl, hl, h⟩

theorem inv_rep_sl {sz : Nat} {xs : List IV} {v : Value} (h : RepI E w (.sl sz xs) v) : ∃ A c, v = .slice A xs.length c ∧ xs.length ≤ c ∧
    (xs = [] ∨ ∃ b o, A = some ⟨b, o, none⟩ ∧ ¬ E b ∧ b < w.heap.size ∧ (∀ (i : Nat) (x : IV), xs[i]? = some x → x.fits sz = true) ∧
      ∀ (i : Nat) (x : IV) (j : Nat) (y : IV), xs[i]? = some x → x.cells[j]? = some y → ∃ u, w.cell? ⟨b, o + (i * sz + j), none⟩ = some u ∧ RepI E w y u) := by
  cases h with
  | sl0 sz A c => exact ⟨A, c, rfl, Nat.zero_le _, .inl rfl⟩
  | sl sz xs b o c u hc hE hb hs hu hr =>
    refine ⟨_, c, rfl, hc, .inr ⟨b, o, rfl, hE, hb, hs, fun i x j y hx hy => ⟨u i j, hu i j ((List.getElem?_eq_some_iff.1 hx).1) ?_, hr i x j y hx hy⟩⟩⟩
    have := (List.getElem?_eq_some_iff.1 hy).1
    rw [IV.fits_len (hs i x hx)] at this
    exact this

theorem rep_sl_mk {sz : Nat} {xs : List IV} {b o c : Nat} (hc : xs.length ≤ c) (hE : ¬ E b) (hb : b < w.heap.size) (hs : ∀ (i : Nat) (x : IV), xs[i]? = some x → x.fits sz = true)
    (h : ∀ (i : Nat) (x : IV) (j : Nat) (y : IV), xs[i]? = some x → x.cells[j]? = some y → ∃ u, w.cell? ⟨b, o + (i * sz + j), none⟩ = some u ∧ RepI E w y u) :
    RepI E w (.sl sz xs) (.slice (some ⟨b, o, none⟩) xs.length c) := by
  refine .sl sz xs b o c (fun i j => (w.cell? ⟨b, o + (i * sz + j), none⟩).getD undef) hc hE hb hs (fun i j hi hj => ?_) (fun i x j y hx hy => ?_)
  · obtain ⟨x, hx⟩ : ∃ x, xs[i]? = some x := ⟨_, List.getElem?_eq_getElem hi⟩
    have hj' : j < x.cells.length := by rw [IV.fits_len (hs i x hx)]; exact hj
    obtain ⟨u, hu, _⟩ := h i x j _ hx (List.getElem?_eq_getElem hj')
    rw [hu]; rfl
  · obtain ⟨u, hu, hr⟩ := h i x j y hx hy
    simp only [hu, Option.getD_some]; exact hr

theorem ivs_spec : ∀ {cs : List AV} {l : List IV}, ivs cs = some l → cs = l.map .iv
  | [], l, h => by simp [ivs] at h; subst h; rfl
  | c :: cs, l, h => by
    cases c <;> simp [ivs] at h
    obtain ⟨l', h1, rfl⟩ := h
    rw [ivs_spec h1]; rfl

theorem rep_mkAgg {cs : List AV} {vs : Array Value} (hl : vs.size = cs.length) (h : ∀ (i : Nat) (y : AV) (z : Value), cs[i]? = some y → vs[i]? = some z → RepA M ρ E w y z) :
    RepA M ρ E w (mkAgg cs) (.agg vs) := by
  unfold mkAgg
  cases hi : ivs cs with
  | none => exact .agg cs vs hl h
  | some l =>
    have e := ivs_spec hi
    subst e
    refine .iv _ _ (.agg l vs (by simpa using hl) (fun i y z hy hz => ?_))
    have := h i (.iv y) z (by rw [List.getElem?_map, hy]; rfl) hz
    cases this with | iv _ _ h => exact h

theorem rep_constCell (v : Value) : RepA M ρ E w (constCell v) v := by
  cases v with
  | bool b => exact .iv _ _ (.bool b)
  | int k n => exact .iv _ _ (.int k n)
  | string s => exact .iv _ _ (.str s)
  | pointer a =>
    cases a with
    | none => exact .iv _ _ .nilp
    | some a => exact .any _
  | slice a n c =>
    unfold constCell
    split
    all_goals first | exact .any _ | skip
    all_goals rename_i h
    all_goals cases h
    exact .nilsl _
  | map r =>
    cases r with
    | none => exact .iv _ _ .map0
    | some r => exact .any _
  | _ => exact .any _

theorem rep_constAV (v : Value) : RepA M ρ E w (constAV v) v := by
  unfold constAV
  split
  · refine rep_mkAgg (by simp) (fun i y z hy hz => ?_)
    rw [List.getElem?_map] at hy
    simp only [Array.getElem?_toList, hz] at hy
    cases hy
    exact rep_constCell z
  · exact rep_constCell v

theorem rep_cells {x : AV} {cs : List AV} {v : Value} (h : RepA M ρ E w x v) (hc : x.cells = some cs) :
    v.cells.size = cs.length ∧ ∀ (i : Nat) (y : AV) (z : Value), cs[i]? = some y → v.cells[i]? = some z → RepA M ρ E w y z := by
  have single : ∀ {x : AV} {v : Value}, RepA M ρ E w x v → v.cells = #[v] → v.cells.size = [x].length ∧ ∀ (i : Nat) (y : AV) (z : Value), [x][i]? = some y → v.cells[i]? = some z → RepA M ρ E w y z := by
    intro x v h e
    rw [e]
    refine ⟨rfl, fun i y z hy hz => ?_⟩
    cases i with
    | zero => simp at hy hz; subst hy hz; exact h
    | succ i => simp at hy
  cases h with
  | any v => simp [AV.cells] at hc
  | nilsl A => simp [AV.cells] at hc; subst hc; exact single (.nilsl A) rfl
  | msl k off len n v m T sz xs h hn hv hf =>
    simp [AV.cells] at hc; subst hc
    obtain ⟨A, l, c, rfl⟩ := hv
    exact single (.msl k off len n _ m T sz xs h hn ⟨A, l, c, rfl⟩ hf) rfl
  | mp k off T cs b h hb => simp [AV.cells] at hc; subst hc; exact single (.mp k off T cs b h hb) rfl
  | rp k n i c v m T sz xs h hn hv hf =>
    simp [AV.cells] at hc; subst hc
    obtain ⟨A, rfl⟩ := hv
    exact single (.rp k n i c _ m T sz xs h hn ⟨A, rfl⟩ hf) rfl
  | ip sz xs i c b o cap h hi => simp [AV.cells] at hc; subst hc; exact single (.ip sz xs i c b o cap h hi) rfl
  | agg cs vs hl h => simp [AV.cells] at hc; subst hc; exact ⟨hl, h⟩
  | tup cs vs hl h => simp [AV.cells] at hc
  | fn f caps vs hl h => simp [AV.cells] at hc; subst hc; exact single (.fn f caps vs hl h) rfl
  | mr k d b h hd hb => simp [AV.cells] at hc; subst hc; exact single (.mr k d b h hd hb) rfl
  | it k d b h hd hb => simp [AV.cells] at hc; subst hc; exact single (.it k d b h hd hb) rfl
  | iv x v h =>
    cases h with
    | agg cs vs hl h =>
      simp [AV.cells] at hc; subst hc
      refine ⟨by simpa [Value.cells] using hl, fun i y z hy hz => ?_⟩
      rw [List.getElem?_map] at hy
      cases hx : cs[i]? with
      | none => rw [hx] at hy; cases hy
      | some y' => rw [hx] at hy; cases hy; exact .iv _ _ (h i y' z hx hz)
    | tup cs vs hl h => simp [AV.cells] at hc
    | bool b => simp [AV.cells] at hc; subst hc; exact single (.iv _ _ (.bool b)) rfl
    | int k n => simp [AV.cells] at hc; subst hc; exact single (.iv _ _ (.int k n)) rfl
    | str s => simp [AV.cells] at hc; subst hc; exact single (.iv _ _ (.str s)) rfl
    | nilp => simp [AV.cells] at hc; subst hc; exact single (.iv _ _ .nilp) rfl
    | fnc f => simp [AV.cells] at hc; subst hc; exact single (.iv _ _ (.fnc f)) rfl
    | sl0 sz A c => simp [AV.cells] at hc; subst hc; exact single (.iv _ _ (.sl0 sz A c)) rfl
    | map0 => simp [AV.cells] at hc; subst hc; exact single (.iv _ _ .map0) rfl
    | map ks vs b es clock h1 h2 h3 h4 h5 h6 h7 => simp [AV.cells] at hc; subst hc; exact single (.iv _ _ (.map ks vs b es clock h1 h2 h3 h4 h5 h6 h7)) rfl
    | sl sz xs b o c u h1 h2 h3 h4 h5 h6 => simp [AV.cells] at hc; subst hc; exact single (.iv _ _ (.sl sz xs b o c u h1 h2 h3 h4 h5 h6)) rfl

theorem rep_cellsI {x : IV} {v : Value} (h : RepI E w x v) (ht : ∀ vs, x ≠ .tup vs) : v.cells.size = x.cells.length ∧ ∀ (i : Nat) (y : IV) (z : Value), x.cells[i]? = some y → v.cells[i]? = some z → RepI E w y z := by
  have single : ∀ {x : IV} {v : Value}, RepI E w x v → v.cells = #[v] → v.cells.size = [x].length ∧ ∀ (i : Nat) (y : IV) (z : Value), [x][i]? = some y → v.cells[i]? = some z → RepI E w y z := by
    intro x v h e
    rw [e]
    refine ⟨rfl, fun i y z hy hz => ?_⟩
    cases i with
    | zero => simp at hy hz; subst hy hz; exact h
    | succ i => simp at hy
  cases h with
  | agg cs vs hl h => exact ⟨hl, h⟩
  | tup cs vs hl h => exact absurd rfl (ht cs)
  | bool b => exact single (.bool b) rfl
  | int k n => exact single (.int k n) rfl
  | str s => exact single (.str s) rfl
  | nilp => exact single .nilp rfl
  | fnc f => exact single (.fnc f) rfl
  | sl0 sz A c => exact single (.sl0 sz A c) rfl
  | map0 => exact single .map0 rfl
  | map ks vs b es clock h1 h2 h3 h4 h5 h6 h7 => exact single (.map ks vs b es clock h1 h2 h3 h4 h5 h6 h7) rfl
  | sl sz xs b o c u h1 h2 h3 h4 h5 h6 => exact single (.sl sz xs b o c u h1 h2 h3 h4 h5 h6) rfl

/-! ### numbers -/

theorem vrun {s : Sem Value} {u : Value} {w' : World} (h : s.run P w = .ok u w') : (do pure (Next.value (← s)) : Sem Next).run P w = .ok (.value u) w' := by
  simp [h]

theorem numBin_sound (op : BinOp) (k : IntKind) (a b : Int) (r : IV) (h : numBin op k a b = some r) (hs : isShift op = false) (t : TypeId) :
    ∃ u, (binOp op t (.int k a) (.int k b)).run P w = .ok u w ∧ RepI E w r u := by
  cases op <;> simp [numBin, isShift] at h hs
  case quo => obtain ⟨hb, rfl⟩ := h; exact ⟨_, by simp [binOp, Op.intDiv, hb], .int _ _⟩
  case rem => obtain ⟨hb, rfl⟩ := h; exact ⟨_, by simp [binOp, Op.intDiv, hb], .int _ _⟩
  case add => subst h; exact ⟨_, by rw [binOp_add]; rfl, .int _ _⟩
  case sub => subst h; exact ⟨_, by rw [binOp_sub]; rfl, .int _ _⟩
  case mul => subst h; exact ⟨_, by rw [binOp_mul]; rfl, .int _ _⟩
  case and => subst h; exact ⟨_, by rw [binOp_and]; rfl, .int _ _⟩
  case or => subst h; exact ⟨_, by rw [binOp_or]; rfl, .int _ _⟩
  case xor => subst h; exact ⟨_, by rw [binOp_xor]; rfl, .int _ _⟩
  case andNot => subst h; exact ⟨_, by rw [binOp_andNot]; rfl, .int _ _⟩
  case eql => subst h; exact ⟨_, by rw [binOp_eql]; rfl, .bool _⟩
  case neq => subst h; exact ⟨_, by rw [binOp_neq]; rfl, .bool _⟩
  case lss => subst h; exact ⟨_, by rw [binOp_lss]; rfl, .bool _⟩
  case leq => subst h; exact ⟨_, by rw [binOp_leq]; rfl, .bool _⟩
  case gtr => subst h; exact ⟨_, by rw [binOp_gtr]; rfl, .bool _⟩
  case geq => subst h; exact ⟨_, by rw [binOp_geq]; rfl, .bool _⟩

theorem shiftI_sound (op : BinOp) (k yk : IntKind) (a b : Int) (r : IV) (h : shiftI op k a b = some r) (t : TypeId) (hs : isShift op = true) :
    ∃ u, (binOp op t (.int k a) (.int yk b)).run P w = .ok u w ∧ RepI E w r u := by
  unfold shiftI at h
  split at h
  · cases h
  · rename_i hb
    cases op <;> simp [isShift] at hs <;> simp at h
    · subst h; exact ⟨_, by simp [binOp, Op.shift, hb], .int _ _⟩
    · subst h; exact ⟨_, by simp [binOp, Op.shift, hb], .int _ _⟩

theorem strBin_sound (op : BinOp) (a b : ByteArray) (r : IV) (h : strBin op a b = some r) (t : TypeId) : ∃ u, (binOp op t (.string a) (.string b)).run P w = .ok u w ∧ RepI E w r u := by
  have hb : binOp op t (.string a) (.string b) = Op.stringOp op a b := by cases op <;> rfl
  rw [hb]
  cases op <;> simp [strBin] at h
  case add =>
    obtain ⟨h1, rfl⟩ := h
    refine ⟨_, ?_, .str _⟩
    have : ¬ ((9223372036854775807 : Int) < (a.size : Int) + (b.size : Int)) := by omega
    simp [Op.stringOp, this]
  all_goals (subst h; exact ⟨_, by simp [Op.stringOp], .bool _⟩)


theorem tKind_bool {t : TypeId} (h : tKind P t = some .bool) : P.underlying t = some .bool := by
  unfold tKind at h; split at h <;> first | assumption | cases h
theorem tKind_str {t : TypeId} (h : tKind P t = some .str) : P.underlying t = some .string := by
  unfold tKind at h; split at h <;> first | assumption | cases h
theorem tKind_int {t : TypeId} {k : IntKind} (h : tKind P t = some (.int k)) : P.underlying t = some (.int k) := by
  unfold tKind at h; split at h <;> first | assumption | (cases h; assumption) | cases h
theorem tKind_ptr {t : TypeId} (h : tKind P t = some .ptr) : ∃ e, P.underlying t = some (.pointer e) := by
  unfold tKind at h; split at h <;> first | exact ⟨_, by assumption⟩ | cases h
theorem tKind_slc {t : TypeId} (h : tKind P t = some .slc) : ∃ e, P.underlying t = some (.slice e) := by
  unfold tKind at h; split at h <;> first | exact ⟨_, by assumption⟩ | cases h
theorem tKind_some {t : TypeId} (h : (tKind P t).isSome = true) : ∃ d, P.underlying t = some d := by
  unfold tKind at h; split at h <;> first | exact ⟨_, by assumption⟩ | (simp at h)

theorem equalIn_bool {t : TypeId} (h : P.underlying t = some .bool) (a b : Bool) (d : Nat) : (Op.equalIn (d + 1) t (.bool a) (.bool b)).run P w = .ok (a == b) w := by
  simp [Op.equalIn, run_underlying h]
theorem equalIn_ptr_nil {t e : TypeId} (h : P.underlying t = some (.pointer e)) (a : Addr) (d : Nat) : (Op.equalIn (d + 1) t (.pointer (some a)) (.pointer none)).run P w = .ok false w := by
  simp [Op.equalIn, run_underlying h]
theorem equalIn_nil_nil {t e : TypeId} (h : P.underlying t = some (.pointer e)) (d : Nat) : (Op.equalIn (d + 1) t (.pointer none) (.pointer none)).run P w = .ok true w := by
  simp [Op.equalIn, run_underlying h]
theorem equal_bool {t : TypeId} (h : P.underlying t = some .bool) (a b : Bool) : (Op.equal t (.bool a) (.bool b)).run P w = .ok (a == b) w := equalIn_bool h a b 9999
theorem equal_ptr_nil {t e : TypeId} (h : P.underlying t = some (.pointer e)) (a : Addr) : (Op.equal t (.pointer (some a)) (.pointer none)).run P w = .ok false w := equalIn_ptr_nil h a 9999
theorem equal_nil_nil {t e : TypeId} (h : P.underlying t = some (.pointer e)) : (Op.equal t (.pointer none) (.pointer none)).run P w = .ok true w := equalIn_nil_nil h 9999

theorem binAV_sound {op : BinOp} {t : TypeId} {x y : AV} {r : IV} (ox oy : Operand) {u v : Value} (hx : RepA M ρ E w x u) (hy : RepA M ρ E w y v) (h : binAV P op t x y = some r) :
    ∃ z, (do eqGuard op t ox oy u v; binOp op t u v : Sem Value).run P w = .ok z w ∧ RepI E w r z := by
  unfold binAV at h
  split at h
  · rw [inv_int hx, inv_int hy, eqGuard_at_int]
    simp only [pure_bind]
    split at h
    · exact shiftI_sound op _ _ _ _ r h t (by assumption)
    · split at h
      · rename_i e; subst e; exact numBin_sound op _ _ _ r h (by simpa using (by assumption : ¬ isShift op = true)) t
      · cases h
  · rw [inv_str hx, inv_str hy, eqGuard_at_string]
    simp only [pure_bind]
    exact strBin_sound op _ _ r h t
  · rw [inv_bool hx, inv_bool hy, eqGuard_at_bool]
    simp only [pure_bind]
    split at h
    · cases h; rename_i hk; exact ⟨_, by simp [binOp, equal_bool (tKind_bool hk)], .bool _⟩
    · cases h; rename_i hk; exact ⟨_, by simp [binOp, equal_bool (tKind_bool hk)], .bool _⟩
    · cases h
  · obtain ⟨T, cs, b, _, _, rfl⟩ := inv_mp hx
    rw [inv_nilp hy, eqGuard_at_pointer]
    simp only [pure_bind]
    split at h
    · cases h; rename_i hk; obtain ⟨e, he⟩ := tKind_ptr hk; exact ⟨_, by simp [binOp, equal_ptr_nil he], .bool _⟩
    · cases h; rename_i hk; obtain ⟨e, he⟩ := tKind_ptr hk; exact ⟨_, by simp [binOp, equal_ptr_nil he], .bool _⟩
    · cases h
  · rw [inv_nilp hx, inv_nilp hy, eqGuard_at_pointer]
    simp only [pure_bind]
    split at h
    · cases h; rename_i hk; obtain ⟨e, he⟩ := tKind_ptr hk; exact ⟨_, by simp [binOp, equal_nil_nil he], .bool _⟩
    · cases h; rename_i hk; obtain ⟨e, he⟩ := tKind_ptr hk; exact ⟨_, by simp [binOp, equal_nil_nil he], .bool _⟩
    · cases h
  · cases h

theorem unAV_sound {op : UnOp} {x : AV} {r : IV} {u : Value} (hx : RepA M ρ E w x u) (h : unAV op x = some r) : ∃ z, (Op.unary op u).run P w = .ok z w ∧ RepI E w r z := by
  unfold unAV at h
  split at h
  · rw [inv_bool hx]; cases h; exact ⟨_, rfl, .bool _⟩
  · rw [inv_int hx]; cases h; exact ⟨_, rfl, .int _ _⟩
  · rw [inv_int hx]; cases h; exact ⟨_, rfl, .int _ _⟩
  · cases h

theorem convAV_sound {src dst : TypeId} {x : AV} {c : Cls} {v : AV} {M' : List MO} {u : Value} (hx : RepA M ρ E w x u) (h : convAV P src dst x M = some (c, v, M')) :
    c = .p ∧ M' = M ∧ ∃ z, (convert src dst u).run P w = .ok z w ∧ RepA M ρ E w v z := by
  unfold convAV at h
  split at h
  · rename_i k k' n hk
    split at h
    · rename_i hs
      obtain ⟨d, hd⟩ := tKind_some hs
      cases h
      rw [inv_int hx]
      refine ⟨rfl, rfl, _, ?_, .iv _ _ (.int _ _)⟩
      simp only [convert, Sem.run_bind, run_underlying hd, run_underlying (tKind_int hk), Result.andThen]
      rfl
    · cases h
  · rename_i s hk
    split at h
    · rename_i hs
      obtain ⟨d, hd⟩ := tKind_some hs
      cases h
      rw [inv_str hx]
      refine ⟨rfl, rfl, _, ?_, .iv _ _ (.str _)⟩
      simp only [convert, Sem.run_bind, run_underlying hd, run_underlying (tKind_str hk), Result.andThen]
      cases d <;> rfl
    · cases h
  · cases h

end
end Go.Proofs.YtpjncojljamacaaGreat.AM
set_option linter.unusedVariables false
set_option linter.unusedSimpArgs false
namespace Go.Proofs.YtpjncojljamacaaGreat.AM
open Go Go.RowKit

section
variable {P : Program} {X O : Nat → Prop} {w0 : World} {M : List MO} {ρ : Nat → Option Nat} {E : Nat → Prop} {w : World}

theorem tElem_spec {t : TypeId} {e : Elem} (h : tElem P t = some e) : P.underlying t = some (.slice e.T) ∧ ∃ i, P.info? e.T = some i ∧ i.size = e.sz ∧ i.bytes = e.bytes ∧ i.zero = some e.zero ∧ e.zero.cells.size = e.sz ∧ 0 < e.sz ∧ 0 < e.bytes := by
  unfold tElem at h
  split at h
  · rename_i T hT
    cases hi : P.info? T with
    | none => rw [hi] at h; cases h
    | some i =>
      rw [hi] at h
      simp only [Option.bind_some] at h
      cases hz : i.zero with
      | none => rw [hz] at h; cases h
      | some z =>
        rw [hz] at h
        simp only [Option.bind_some] at h
        split at h
        · rename_i hc; cases h; exact ⟨hT, i, hi, rfl, rfl, hz, hc.1, hc.2.1, hc.2.2⟩
        · cases h
  · cases h

theorem rowAt_spec {k n : Nat} {m : Bool} {T : TypeId} {sz : Nat} {xs : List IV} (h : rowAt M k n = some (m, T, sz, xs)) : M[k]? = some (.row m T sz xs) ∧ n = xs.length := by
  unfold rowAt at h
  split at h
  · split at h
    · cases h; exact ⟨by assumption, by assumption⟩
    · cases h
  · cases h

theorem msl_spec {k off len n : Nat} {v : Value} (h : RepA M ρ E w (.msl k off len n) v) {m : Bool} {T : TypeId} {sz : Nat} {xs : List IV} (hM : M[k]? = some (.row m T sz xs)) (hn : n = xs.length) :
    SlFact ρ w k T sz off len n v := by
  cases h with
  | msl _ _ _ _ _ m' T' sz' xs' h hn' hv hf =>
    rw [hM] at h; cases h
    exact hf hn

theorem rp_spec {k n i c : Nat} {v : Value} (h : RepA M ρ E w (.rp k n i c) v) {m : Bool} {T : TypeId} {sz : Nat} {xs : List IV} (hM : M[k]? = some (.row m T sz xs)) (hn : n = xs.length) :
    ∃ b, ρ k = some b ∧ v = .pointer (some ⟨b, i * sz + c, none⟩) := by
  cases h with
  | rp _ _ _ _ _ m' T' sz' xs' h hn' hv hf =>
    rw [hM] at h; cases h
    exact hf hn

theorem oneCell_of_one {y : IV} {u : Value} (h : RepI E w y u) (hy : y.one = true) : u.oneCell' = true := by
  cases h <;> first | rfl | (simp [IV.one] at hy)

theorem oneCell_of_oneA {y : AV} {u : Value} (h : RepA M ρ E w y u) (hy : y.one = true) : u.oneCell' = true := by
  cases h with
  | any v => simp [AV.one] at hy
  | iv x v h => exact oneCell_of_one h hy
  | nilsl A => rfl
  | msl k off len n v m T sz xs h hn hv hf => obtain ⟨A, l, c, rfl⟩ := hv; rfl
  | mp => rfl
  | rp k n i c v m T sz xs h hn hv hf => obtain ⟨A, rfl⟩ := hv; rfl
  | ip => rfl
  | agg => simp [AV.one] at hy
  | tup => simp [AV.one] at hy
  | fn => rfl
  | mr => rfl
  | it => rfl

theorem not_tup_of_one {y : IV} (hy : y.one = true) : ∀ vs, y ≠ .tup vs := by rintro vs rfl; simp [IV.one] at hy

theorem row_cell (hm : MemOk X O w0 M ρ w) {k : Nat} {m : Bool} {T : TypeId} {sz : Nat} {xs : List IV} (hM : M[k]? = some (.row m T sz xs)) {b : Nat} (hb : ρ k = some b) :
    (∀ (i : Nat) (x : IV), xs[i]? = some x → x.fits sz = true) ∧ ∃ arr fz, w.heap[b]? = some (.cells arr T fz) ∧ Unfrozen arr fz sz ∧ xs.length * sz ≤ arr.size ∧
      ∀ (i : Nat) (x : IV) (j : Nat) (y : IV), xs[i]? = some x → x.cells[j]? = some y → ∃ u, arr[i * sz + j]? = some u ∧ RepI (excl X M ρ) w y u := by
  have h := hm.obj k _ hM
  obtain ⟨h1, h2⟩ := h
  rw [hb] at h2
  exact ⟨h1, h2⟩

theorem row_fits (hm : MemOk X O w0 M ρ w) {k : Nat} {m : Bool} {T : TypeId} {sz : Nat} {xs : List IV} (hM : M[k]? = some (.row m T sz xs)) :
    ∀ (i : Nat) (x : IV), xs[i]? = some x → x.fits sz = true := (hm.obj k _ hM).1

theorem cell_of_cells {b o : Nat} {arr : Array Value} {T : TypeId} {fz : Nat × Nat} (h : w.heap[b]? = some (.cells arr T fz)) : w.cell? ⟨b, o, none⟩ = arr[o]? := by
  simp [World.cell?, h]

theorem layout {sz : Nat} {ys : List IV} (hf : ∀ (i : Nat) (x : IV), ys[i]? = some x → x.fits sz = true) (f : Nat → Option Value)
    (h : ∀ (i : Nat) (x : IV) (j : Nat) (y : IV), ys[i]? = some x → x.cells[j]? = some y → ∃ u, f (i * sz + j) = some u ∧ RepI E w y u) :
    ∃ news : List Value, news.length = ys.length * sz ∧ (∀ j u, news[j]? = some u → f j = some u ∧ u.oneCell' = true) ∧
      ∀ (i : Nat) (x : IV) (j : Nat) (y : IV), ys[i]? = some x → x.cells[j]? = some y → ∃ u, news[i * sz + j]? = some u ∧ RepI E w y u := by
  have key : ∀ p, p < ys.length * sz → ∃ u, f p = some u ∧ u.oneCell' = true := by
    intro p hp
    have hsz : 0 < sz := by rcases Nat.eq_zero_or_pos sz with h0 | h0; · subst h0; simp at hp
                            · exact h0
    have hi : p / sz < ys.length := (Nat.div_lt_iff_lt_mul hsz).2 hp
    have hx := List.getElem?_eq_getElem hi
    have hj : p % sz < (ys[p / sz]).cells.length := by rw [IV.fits_len (hf _ _ hx)]; exact Nat.mod_lt _ hsz
    have hy := List.getElem?_eq_getElem hj
    obtain ⟨u, hu, hr⟩ := h _ _ _ _ hx hy
    rw [show p / sz * sz + p % sz = p from by rw [Nat.mul_comm]; exact Nat.div_add_mod p sz] at hu
    exact ⟨u, hu, oneCell_of_one hr (IV.fits_one (hf _ _ hx) hy)⟩
  refine ⟨(List.range (ys.length * sz)).map fun p => (f p).getD undef, by simp, fun j u hj => ?_, fun i x j y hx hy => ?_⟩
  · rw [List.getElem?_map] at hj
    cases hr : (List.range (ys.length * sz))[j]? with
    | none => rw [hr] at hj; cases hj
    | some p =>
      rw [List.getElem?_eq_some_iff] at hr
      obtain ⟨h1, h2⟩ := hr
      simp at h1 h2
      subst h2
      obtain ⟨u', h3, h4⟩ := key j h1
      rw [List.getElem?_range (by simpa using h1)] at hj
      simp [h3] at hj
      subst hj; exact ⟨h3, h4⟩
  · obtain ⟨u, hu, hr⟩ := h i x j y hx hy
    refine ⟨u, ?_, hr⟩
    have hi := (List.getElem?_eq_some_iff.1 hx).1
    have hj := (List.getElem?_eq_some_iff.1 hy).1
    rw [IV.fits_len (hf i x hx)] at hj
    have : i * sz + j < ys.length * sz := Nat.lt_of_lt_of_le (by omega : i * sz + j < i * sz + sz) (by rw [← Nat.succ_mul]; exact Nat.mul_le_mul_right _ hi)
    rw [List.getElem?_map, List.getElem?_range this]
    simp [hu]

theorem str_fits (s : ByteArray) : ∀ (i : Nat) (x : IV), (s.data.toList.map fun b => IV.int .u8 b.toNat)[i]? = some x → x.fits 1 = true := by
  intro i x hx
  rw [List.getElem?_map] at hx
  cases h : s.data.toList[i]? with
  | none => rw [h] at hx; cases hx
  | some b => rw [h] at hx; cases hx; rfl

theorem getElem?_drop_take {α : Type} (l : List α) (a n i : Nat) (x : α) (h : ((l.drop a).take n)[i]? = some x) : l[a + i]? = some x ∧ i < n := by
  rw [List.getElem?_take] at h
  split at h
  · rw [List.getElem?_drop] at h; exact ⟨h, by assumption⟩
  · cases h

theorem elems_sound (hm : MemOk X O w0 M ρ w) {sz : Nat} {x : AV} {ys : List IV} {v : Value} (hx : RepA M ρ (excl X M ρ) w x v) (h : elems M sz x = some ys) :
    (∀ (i : Nat) (x : IV), ys[i]? = some x → x.fits sz = true) ∧
    (∀ w', (Builtin.lenOf v).run P w' = .ok ys.length w') ∧
    ∃ news : List Value, news.length = ys.length * sz ∧ (∀ u ∈ news, u.oneCell' = true) ∧
      (∀ (i : Nat) (x : IV) (j : Nat) (y : IV), ys[i]? = some x → x.cells[j]? = some y → ∃ u, news[i * sz + j]? = some u ∧ RepI (excl X M ρ) w y u) ∧
      ∀ m w', w'.heap = w.heap → m ≤ ys.length → (Builtin.firstCells sz m v).run P w' = .ok (news.take (m * sz)).toArray w' := by
  have fin : ∀ (b o len c : Nat), ys.length ≤ len → (∀ (i : Nat) (x : IV), ys[i]? = some x → x.fits sz = true) →
      (∀ (i : Nat) (x : IV) (j : Nat) (y : IV), ys[i]? = some x → x.cells[j]? = some y → ∃ u, w.cell? ⟨b, o + (i * sz + j), none⟩ = some u ∧ RepI (excl X M ρ) w y u) →
      ∃ news : List Value, news.length = ys.length * sz ∧ (∀ u ∈ news, u.oneCell' = true) ∧
      (∀ (i : Nat) (x : IV) (j : Nat) (y : IV), ys[i]? = some x → x.cells[j]? = some y → ∃ u, news[i * sz + j]? = some u ∧ RepI (excl X M ρ) w y u) ∧
      ∀ m w', w'.heap = w.heap → m ≤ ys.length → (Builtin.firstCells sz m (.slice (some ⟨b, o, none⟩) len c)).run P w' = .ok (news.take (m * sz)).toArray w' := by
    intro b o len c hlen hfits hcells
    obtain ⟨news, h1, h2, h3⟩ := layout hfits (fun p => w.cell? ⟨b, o + p, none⟩) hcells
    refine ⟨news, h1, fun u hu => ?_, h3, fun m w' hw' hm' => ?_⟩
    · obtain ⟨j, hj⟩ := List.getElem?_of_mem hu
      exact (h2 j u hj).2
    · have hle : m * sz ≤ news.length := by rw [h1]; exact Nat.mul_le_mul_right _ hm'
      refine run_firstCells_some w' sz m _ _ _ (news.take (m * sz)) (by rw [List.length_take]; omega) (fun j u hj => ?_)
      rw [List.getElem?_take] at hj
      split at hj
      · rw [Addr.add_lit]
        have := (h2 j u hj).1
        simp only [World.cell?, hw'] at this ⊢
        exact this
      · cases hj
  unfold elems at h
  split at h
  · rename_i sz' xs
    split at h
    · cases h
      cases hx with
      | iv _ _ hx =>
        obtain ⟨A, c, hv, hc, hh⟩ := inv_rep_sl hx
        subst hv
        rename_i hsz
        rcases hh with rfl | ⟨b, o, rfl, hE, hb, hs, hcell⟩
        · exact ⟨by simp, fun _ => rfl, [], by simp, by simp, by simp, fun m w' _ hm' => by
            have : m = 0 := by simpa using hm'
            subst this
            cases A <;> simp [Builtin.firstCells, loadCells, loadCellsFrom]⟩
        · rcases hsz with rfl | rfl
          · exact ⟨hs, fun _ => rfl, fin b o _ c (Nat.le_refl _) hs hcell⟩
          · exact ⟨by simp, fun _ => rfl, fin b o _ c (Nat.le_refl _) (by simp) (by simp)⟩
    · cases h
  · cases h
    obtain ⟨A, rfl⟩ := inv_nilsl hx
    exact ⟨by simp, fun _ => rfl, [], by simp, by simp, by simp, fun m w' _ hm' => by
      have : m = 0 := by simpa using hm'
      subst this
      cases A <;> simp [Builtin.firstCells, loadCells, loadCellsFrom]⟩
  · rename_i k off len n
    cases hr : rowAt M k n with
    | none => rw [hr] at h; cases h
    | some r =>
      obtain ⟨m, T, sz', xs⟩ := r
      rw [hr] at h
      simp only [Option.bind_some] at h
      split at h
      · rename_i hc
        obtain ⟨rfl, hle⟩ := hc
        cases h
        obtain ⟨hM, hn⟩ := rowAt_spec hr
        obtain ⟨h1, A, c, hv, hlc, h2⟩ := msl_spec hx hM hn
        subst hv
        have hlen : ((xs.drop off).take len).length = len := by rw [List.length_take, List.length_drop]; omega
        have hfits : ∀ (i : Nat) (x : IV), ((xs.drop off).take len)[i]? = some x → x.fits sz' = true := fun i x hx' => row_fits hm hM _ _ (getElem?_drop_take _ _ _ _ _ hx').1
        refine ⟨hfits, fun _ => by rw [hlen]; rfl, ?_⟩
        cases hk : ρ k with
        | none =>
          rw [hk] at h2
          obtain ⟨rfl, hn0⟩ := h2
          have hl0 : len = 0 := by omega
          subst hl0
          exact ⟨[], by simp, by simp, by simp, fun m w' _ hm' => by
            have : m = 0 := by simpa using hm'
            subst this
            cases A <;> simp [Builtin.firstCells, loadCells, loadCellsFrom]⟩
        | some b =>
          rw [hk] at h2
          obtain ⟨h3, h4⟩ := h2
          rcases Nat.eq_zero_or_pos c with hc0 | hc0
          · have hl0 : len = 0 := by omega
            subst hl0
            exact ⟨[], by simp, by simp, by simp, fun m w' _ hm' => by
              have : m = 0 := by simpa using hm'
              subst this
              cases A <;> simp [Builtin.firstCells, loadCells, loadCellsFrom]⟩
          · have hA := h3 hc0
            subst hA
            obtain ⟨_, arr, fz, h5, h6, h7, h8⟩ := row_cell hm hM hk
            refine fin b (off * sz') len c (by omega) hfits (fun i x j y hx' hy => ?_)
            obtain ⟨hx2, hi⟩ := getElem?_drop_take _ _ _ _ _ hx'
            obtain ⟨u, hu, hr'⟩ := h8 _ _ _ _ hx2 hy
            refine ⟨u, ?_, hr'⟩
            rw [cell_of_cells h5, ← hu, Nat.add_mul, Nat.add_assoc]
      · cases h
  · rename_i s
    split at h
    · rename_i hsz
      subst hsz
      cases h
      have hv := inv_str hx
      subst hv
      refine ⟨str_fits s, fun _ => by simp [Builtin.lenOf], (s.data.toList.map fun b => Value.int .u8 b.toNat), by simp, by simp; intro a _; rfl, fun i x j y hx' hy => ?_, fun m w' _ hm' => ?_⟩
      · rw [List.getElem?_map] at hx'
        cases hs : s.data.toList[i]? with
        | none => rw [hs] at hx'; cases hx'
        | some b =>
          rw [hs] at hx'; cases hx'
          have : j = 0 := by
            rcases Nat.eq_zero_or_pos j with h0 | h0
            · exact h0
            · simp [IV.cells, show ∃ q, j = q + 1 from ⟨j - 1, by omega⟩] at hy
              obtain ⟨q, rfl⟩ : ∃ q, j = q + 1 := ⟨j - 1, by omega⟩
              simp at hy
          subst this
          simp [IV.cells] at hy
          subst hy
          exact ⟨_, by simp [hs], .int _ _⟩
      · simp only [Builtin.firstCells, Sem.run_pure, Nat.mul_one]
        congr 1
        apply Array.ext'
        simp [ByteArray.extract, ByteArray.copySlice, List.map_take]
    · cases h
  · cases h

end
end Go.Proofs.YtpjncojljamacaaGreat.AM
set_option linter.unusedVariables false
set_option linter.unusedSimpArgs false
namespace Go.Proofs.YtpjncojljamacaaGreat.AM
open Go Go.RowKit

section
variable {P : Program} {X O : Nat → Prop} {w0 : World} {M : List MO} {ρ : Nat → Option Nat} {E : Nat → Prop} {w : World}

theorem run_typeInfo {t : TypeId} {i : TypeInfo} (h : P.info? t = some i) (w : World) : (typeInfo t).run P w = .ok i w := by simp [typeInfo, h]
theorem run_sizeOf {t : TypeId} {i : TypeInfo} (h : P.info? t = some i) (w : World) : (sizeOf t).run P w = .ok i.size w := by simp [sizeOf, run_typeInfo h]
theorem run_zeroValue {t : TypeId} {i : TypeInfo} {z : Value} (h : P.info? t = some i) (hz : i.zero = some z) (w : World) : (zeroValue t).run P w = .ok z w := by simp [zeroValue, run_typeInfo h, hz]

theorem tAgg_spec {t : TypeId} {ag : Option Nat} (h : tAgg P t = some ag) :
    ∃ i, P.info? t = some i ∧ match ag with
      | none => ∀ w, (isAgg t).run P w = .ok false w
      | some n => (∀ w, (isAgg t).run P w = .ok true w) ∧ i.size = n := by
  unfold tAgg at h
  cases hu : P.underlying t with
  | none => simp [hu] at h
  | some d =>
    cases hi : P.info? t with
    | none => cases d <;> simp [hu, hi] at h
    | some i =>
      refine ⟨i, rfl, ?_⟩
      simp only [hu, hi] at h
      cases d <;> cases h <;> first
        | exact fun w => by simp [isAgg, run_underlying hu]
        | exact ⟨fun w => by simp [isAgg, run_underlying hu], rfl⟩

theorem run_loadVar_one {t : TypeId} (h : tAgg P t = some none) {a : Addr} {u : Value} (hc : w.cell? a = some u) : (loadVar t a).run P w = .ok u w := by
  obtain ⟨i, hi, h1⟩ := tAgg_spec h
  simp only [loadVar, Sem.run_bind, h1 w, Result.andThen, run_load, hc, Bool.false_eq_true, if_false, Sem.run_ite]

theorem run_loadVar_agg {t : TypeId} {n : Nat} (h : tAgg P t = some (some n)) {a : Addr} {cs : List Value} (hl : cs.length = n) (hc : ∀ j v, cs[j]? = some v → w.cell? (a.add j) = some v) :
    (loadVar t a).run P w = .ok (.agg cs.toArray) w := by
  obtain ⟨i, hi, h1, h2⟩ := tAgg_spec h
  have := run_loadCells_list (P := P) w a cs hc
  rw [hl, ← h2] at this
  simp only [loadVar, Sem.run_bind, h1 w, Result.andThen, if_true, Sem.run_ite, run_sizeOf hi, this, Sem.run_pure]

theorem run_part_one {t : TypeId} (h : tAgg P t = some none) {cs : Array Value} {off : Nat} {u : Value} (hc : cs[off]? = some u) : (part t cs off).run P w = .ok u w := by
  obtain ⟨i, hi, h1⟩ := tAgg_spec h
  simp only [part, Sem.run_bind, h1 w, Result.andThen, Bool.false_eq_true, if_false, Sem.run_ite, hc, Sem.run_pure]

theorem run_part_agg {t : TypeId} {n : Nat} (h : tAgg P t = some (some n)) {cs : Array Value} {off : Nat} : (part t cs off).run P w = .ok (.agg (cs.extract off (off + n))) w := by
  obtain ⟨i, hi, h1, h2⟩ := tAgg_spec h
  simp only [part, Sem.run_bind, h1 w, Result.andThen, if_true, Sem.run_ite, run_sizeOf hi, Sem.run_pure, h2]

theorem elemPart_load {t : TypeId} {ag : Option Nat} (ht : tAgg P t = some ag) {x r : IV} {c b o : Nat} (h : elemPart ag x c = some r)
    (hc : ∀ (j : Nat) (y : IV), x.cells[j]? = some y → ∃ u, w.cell? ⟨b, o + j, none⟩ = some u ∧ RepI E w y u) :
    ∃ u, (loadVar t ⟨b, o + c, none⟩).run P w = .ok u w ∧ RepI E w r u := by
  unfold elemPart at h
  cases ag with
  | none =>
    obtain ⟨u, hu, hr⟩ := hc c r h
    exact ⟨u, run_loadVar_one ht hu, hr⟩
  | some n =>
    simp only at h
    split at h
    · rename_i hle
      cases h
      let f : Nat → Value := fun j => (w.cell? ⟨b, o + (c + j), none⟩).getD undef
      have hf : ∀ j, j < n → ∃ y, x.cells[c + j]? = some y ∧ w.cell? ⟨b, o + (c + j), none⟩ = some (f j) ∧ RepI E w y (f j) := by
        intro j hj
        have hlt : c + j < x.cells.length := by omega
        obtain ⟨u, hu, hr⟩ := hc _ _ (List.getElem?_eq_getElem hlt)
        have e : f j = u := by simp only [f, hu, Option.getD_some]
        exact ⟨_, List.getElem?_eq_getElem hlt, by rw [e]; exact hu, by rw [e]; exact hr⟩
      refine ⟨_, run_loadVar_agg ht (cs := (List.range n).map f) (by simp) (fun j v hv => ?_), .agg _ _ (by simp [List.length_take, List.length_drop]; omega) (fun i y z hy hz => ?_)⟩
      · rw [List.getElem?_map] at hv
        have hj : j < n := by
          rcases Nat.lt_or_ge j n with h | h
          · exact h
          · rw [List.getElem?_eq_none (by simpa using h)] at hv; cases hv
        rw [List.getElem?_range hj] at hv
        cases hv
        obtain ⟨_, _, h2, _⟩ := hf j hj
        rw [Addr.add_lit, Nat.add_assoc]; exact h2
      · rw [List.getElem?_take] at hy
        split at hy
        · rename_i hin
          rw [List.getElem?_drop] at hy
          obtain ⟨y', h1, _, h3⟩ := hf i hin
          rw [h1] at hy; cases hy
          rw [List.getElem?_toArray, List.getElem?_map, List.getElem?_range hin] at hz
          cases hz; exact h3
        · cases hy
    · cases h

theorem varPart_load {t : TypeId} {ag : Option Nat} (ht : tAgg P t = some ag) {cs : List AV} {r : AV} {c b : Nat} (h : varPart ag cs c = some r)
    (hc : ∀ (j : Nat) (y : AV), cs[j]? = some y → ∃ u, w.cell? ⟨b, j, none⟩ = some u ∧ RepA M ρ E w y u) :
    ∃ u, (loadVar t ⟨b, c, none⟩).run P w = .ok u w ∧ RepA M ρ E w r u := by
  unfold varPart at h
  cases ag with
  | none =>
    obtain ⟨u, hu, hr⟩ := hc c r h
    exact ⟨u, run_loadVar_one ht hu, hr⟩
  | some n =>
    simp only at h
    split at h
    · rename_i hle
      cases h
      let f : Nat → Value := fun j => (w.cell? ⟨b, c + j, none⟩).getD undef
      have hf : ∀ j, j < n → ∃ y, cs[c + j]? = some y ∧ w.cell? ⟨b, c + j, none⟩ = some (f j) ∧ RepA M ρ E w y (f j) := by
        intro j hj
        have hlt : c + j < cs.length := by omega
        obtain ⟨u, hu, hr⟩ := hc _ _ (List.getElem?_eq_getElem hlt)
        have e : f j = u := by simp only [f, hu, Option.getD_some]
        exact ⟨_, List.getElem?_eq_getElem hlt, by rw [e]; exact hu, by rw [e]; exact hr⟩
      refine ⟨_, run_loadVar_agg ht (cs := (List.range n).map f) (by simp) (fun j v hv => ?_), rep_mkAgg (by simp [List.length_take, List.length_drop]; omega) (fun i y z hy hz => ?_)⟩
      · rw [List.getElem?_map] at hv
        have hj : j < n := by
          rcases Nat.lt_or_ge j n with h | h
          · exact h
          · rw [List.getElem?_eq_none (by simpa using h)] at hv; cases hv
        rw [List.getElem?_range hj] at hv
        cases hv
        obtain ⟨_, _, h2, _⟩ := hf j hj
        rw [Addr.add_lit]; exact h2
      · rw [List.getElem?_take] at hy
        split at hy
        · rename_i hin
          rw [List.getElem?_drop] at hy
          obtain ⟨y', h1, _, h3⟩ := hf i hin
          rw [h1] at hy; cases hy
          rw [List.getElem?_toArray, List.getElem?_map, List.getElem?_range hin] at hz
          cases hz; exact h3
        · cases hy
    · cases h

theorem elemPart_part {t : TypeId} {ag : Option Nat} (ht : tAgg P t = some ag) {cs : List IV} {r : IV} {off : Nat} {vs : Array Value} (h : elemPart ag (.agg cs) off = some r) (hl : vs.size = cs.length)
    (hc : ∀ (i : Nat) (y : IV) (z : Value), cs[i]? = some y → vs[i]? = some z → RepI E w y z) : ∃ u, (part t vs off).run P w = .ok u w ∧ RepI E w r u := by
  unfold elemPart at h
  cases ag with
  | none =>
    simp only [IV.cells] at h
    have hlt := (List.getElem?_eq_some_iff.1 h).1
    have hv : vs[off]? = some (vs[off]'(by omega)) := Array.getElem?_eq_getElem (by omega)
    exact ⟨_, run_part_one ht hv, hc off r _ h hv⟩
  | some n =>
    change (if off + n ≤ (IV.agg cs).cells.length then some (IV.agg (((IV.agg cs).cells.drop off).take n)) else none) = some r at h
    by_cases hle : off + n ≤ cs.length
    · rw [show (if off + n ≤ (IV.agg cs).cells.length then some (IV.agg (((IV.agg cs).cells.drop off).take n)) else none) = some (IV.agg ((cs.drop off).take n)) from if_pos hle] at h
      cases h
      refine ⟨_, run_part_agg ht, .agg _ _ (by simp [List.length_take, List.length_drop, Array.size_extract]; omega) (fun i y z hy hz => ?_)⟩
      rw [List.getElem?_take] at hy
      split at hy
      · rw [List.getElem?_drop] at hy
        rw [Array.getElem?_extract] at hz
        split at hz
        · exact hc _ _ _ hy hz
        · cases hz
      · cases hy
    · rw [show (if off + n ≤ (IV.agg cs).cells.length then some (IV.agg (((IV.agg cs).cells.drop off).take n)) else none) = none from if_neg hle] at h; cases h

theorem varPart_part {t : TypeId} {ag : Option Nat} (ht : tAgg P t = some ag) {cs : List AV} {r : AV} {off : Nat} {vs : Array Value} (h : varPart ag cs off = some r) (hl : vs.size = cs.length)
    (hc : ∀ (i : Nat) (y : AV) (z : Value), cs[i]? = some y → vs[i]? = some z → RepA M ρ E w y z) : ∃ u, (part t vs off).run P w = .ok u w ∧ RepA M ρ E w r u := by
  unfold varPart at h
  cases ag with
  | none =>
    simp only at h
    have hlt := (List.getElem?_eq_some_iff.1 h).1
    have hv : vs[off]? = some (vs[off]'(by omega)) := Array.getElem?_eq_getElem (by omega)
    exact ⟨_, run_part_one ht hv, hc off r _ h hv⟩
  | some n =>
    simp only at h
    split at h
    · rename_i hle
      cases h
      refine ⟨_, run_part_agg ht, rep_mkAgg (by simp [List.length_take, List.length_drop, Array.size_extract]; omega) (fun i y z hy hz => ?_)⟩
      rw [List.getElem?_take] at hy
      split at hy
      · rw [List.getElem?_drop] at hy
        rw [Array.getElem?_extract] at hz
        split at hz
        · exact hc _ _ _ hy hz
        · cases hz
      · cases hy
    · cases h

theorem var_cell (hm : MemOk X O w0 M ρ w) {k : Nat} {T : TypeId} {cs : List AV} (hM : M[k]? = some (.var T cs)) : ∃ b arr fz, ρ k = some b ∧ w.heap[b]? = some (.cells arr T fz) ∧ Unfrozen arr fz 0 ∧ arr.size = cs.length ∧
    ∀ (j : Nat) (y : AV), cs[j]? = some y → ∃ u, w.cell? ⟨b, j, none⟩ = some u ∧ RepA M ρ (excl X M ρ) w y u := by
  obtain ⟨b, arr, fz, h1, h2, h3, h4, h5⟩ := hm.obj k _ hM
  refine ⟨b, arr, fz, h1, h2, h3, h4, fun j y hy => ?_⟩
  have hlt := (List.getElem?_eq_some_iff.1 hy).1
  have hv : arr[j]? = some (arr[j]'(by omega)) := Array.getElem?_eq_getElem (by omega)
  exact ⟨_, (cell_of_cells h2).trans hv, h5 j y _ hy hv⟩

theorem load_var (hm : MemOk X O w0 M ρ w) {t : TypeId} {ag : Option Nat} (ht : tAgg P t = some ag) {k off : Nat} {T : TypeId} {cs : List AV} {r : AV} {v : Value} (hv : RepA M ρ (excl X M ρ) w (.mp k off) v)
    (hM : M[k]? = some (.var T cs)) (h : varPart ag cs off = some r) : ∃ u, (Instr.loadAt t v).run P w = .ok u w ∧ RepA M ρ (excl X M ρ) w r u := by
  obtain ⟨T', cs', b, h1, hb, rfl⟩ := inv_mp hv
  obtain ⟨b', arr, fz, h2, _, _, _, h6⟩ := var_cell hm hM
  rw [hb] at h2; cases h2
  obtain ⟨u, hu, hr⟩ := varPart_load ht h h6
  exact ⟨u, by simp [Instr.loadAt, Instr.sureAddr, hu], hr⟩

theorem load_row (hm : MemOk X O w0 M ρ w) {t : TypeId} {ag : Option Nat} (ht : tAgg P t = some ag) {k n i c : Nat} {m : Bool} {T : TypeId} {sz : Nat} {xs : List IV} {x r : IV} {v : Value} (hv : RepA M ρ (excl X M ρ) w (.rp k n i c) v)
    (hM : rowAt M k n = some (m, T, sz, xs)) (hx : xs[i]? = some x) (h : elemPart ag x c = some r) : ∃ u, (Instr.loadAt t v).run P w = .ok u w ∧ RepI (excl X M ρ) w r u := by
  obtain ⟨hM, hn⟩ := rowAt_spec hM
  obtain ⟨b, hb, rfl⟩ := rp_spec hv hM hn
  obtain ⟨_, arr, fz, h5, h6, h7, h8⟩ := row_cell hm hM hb
  obtain ⟨u, hu, hr⟩ := elemPart_load (E := excl X M ρ) (w := w) (b := b) (o := i * sz) ht h (fun j y hy => by
    obtain ⟨u, h1, h2⟩ := h8 i x j y hx hy
    exact ⟨u, (cell_of_cells h5).trans h1, h2⟩)
  exact ⟨u, by simp [Instr.loadAt, Instr.sureAddr, hu], hr⟩

theorem load_ip {t : TypeId} {ag : Option Nat} (ht : tAgg P t = some ag) {sz i c : Nat} {xs : List IV} {x r : IV} {v : Value} (hv : RepA M ρ E w (.ip sz xs i c) v)
    (hx : xs[i]? = some x) (h : elemPart ag x c = some r) : ∃ u, (Instr.loadAt t v).run P w = .ok u w ∧ RepI E w r u := by
  cases hv with
  | ip _ _ _ _ b o cap hr hi =>
    obtain ⟨A, c', hA, _, h2⟩ := inv_rep_sl hr
    cases hA
    rcases h2 with rfl | ⟨b', o', e, hE, hb, hs, hcell⟩
    · simp at hi
    · cases e
      obtain ⟨u, hu, hr⟩ := elemPart_load (E := E) (w := w) (b := b) (o := o + i * sz) ht h (fun j y hy => by
        obtain ⟨u, h1, h2⟩ := hcell i x j y hx hy
        exact ⟨u, by rw [Nat.add_assoc]; exact h1, h2⟩)
      rw [Nat.add_assoc] at hu
      exact ⟨u, by simp [Instr.loadAt, Instr.sureAddr, hu], hr⟩

theorem tField_spec {s : TypeId} {f off : Nat} {ft : TypeId} (h : tField P s f = some (off, ft)) : ∃ fs d i, P.underlying s = some (.struct fs) ∧ fs[f]? = some d ∧ d.offset = off ∧ d.type = ft ∧ P.info? ft = some i ∧ i.size ≠ 0 := by
  unfold tField at h
  split at h
  · rename_i fs hfs
    cases hd : fs[f]? with
    | none => rw [hd] at h; cases h
    | some d =>
      rw [hd] at h
      simp only [Option.bind_some] at h
      cases hi : P.info? d.type with
      | none => rw [hi] at h; cases h
      | some i =>
        rw [hi] at h
        simp only [Option.bind_some] at h
        split at h
        · cases h
        · cases h; exact ⟨fs, d, i, hfs, hd, rfl, rfl, hi, by assumption⟩
  · cases h

theorem run_fieldAt {s : TypeId} {f off : Nat} {ft : TypeId} (h : tField P s f = some (off, ft)) (a : Addr) : (Instr.fieldAt s (.pointer (some a)) f).run P w = .ok (.pointer (some (a.add off))) w := by
  obtain ⟨fs, d, i, h1, h2, rfl, rfl, h3, h4⟩ := tField_spec h
  simp [Instr.fieldAt, run_underlying h1, h2, Instr.sureAddr, fieldPlace, run_sizeOf h3, h4]

theorem run_field {s : TypeId} {f off : Nat} {ft : TypeId} (h : tField P s f = some (off, ft)) {vs : Array Value} {u : Value} (hp : (part ft vs off).run P w = .ok u w) : (Instr.field s (.agg vs) f).run P w = .ok u w := by
  obtain ⟨fs, d, i, h1, h2, rfl, rfl, h3, h4⟩ := tField_spec h
  simp [Instr.field, run_underlying h1, h2, asAgg, hp]

theorem run_indexAt {t : TypeId} {e : Elem} (h : tElem P t = some e) (b o len c : Nat) (k : IntKind) (j : Int) (h0 : 0 ≤ j) (h1 : j < len) :
    (Instr.indexAt t (.slice (some ⟨b, o, none⟩) len c) (.int k j)).run P w = .ok (.pointer (some ⟨b, o + j.toNat * e.sz, none⟩)) w := by
  obtain ⟨h2, i, hi, hs, _⟩ := tElem_spec h
  simp [Instr.indexAt, asIntOf, run_underlying h2, h0, h1, run_sizeOf hi, hs, Addr.add_lit]

theorem tArr_spec {t : TypeId} {n et sz : Nat} (h : tArr P t = some (n, et, sz)) : P.underlying t = some (.array n et) ∧ (∃ i, P.info? et = some i ∧ i.size = sz) ∧ 1 < n := by
  unfold tArr at h
  split at h
  · rename_i n' e he
    cases hi : P.info? e with
    | none => rw [hi] at h; cases h
    | some i =>
      rw [hi] at h
      simp only [Option.bind_some] at h
      split at h
      · cases h; exact ⟨he, ⟨i, hi, rfl⟩, by assumption⟩
      · cases h
  · cases h

theorem run_indexAt_arr {t : TypeId} {n et sz : Nat} (h : tArr P t = some (n, et, sz)) (b o : Nat) (k : IntKind) (j : Int) (h0 : 0 ≤ j) (h1 : j < n) :
    (Instr.indexAt t (.pointer (some ⟨b, o, none⟩)) (.int k j)).run P w = .ok (.pointer (some ⟨b, o + j.toNat * sz, none⟩)) w := by
  obtain ⟨h2, ⟨i, hi, hs⟩, h3⟩ := tArr_spec h
  simp [Instr.indexAt, asIntOf, run_underlying h2, Instr.sureAddr, h0, h1, run_sizeOf hi, hs, Addr.add_lit]

theorem run_index_arr {t : TypeId} {n et sz : Nat} (h : tArr P t = some (n, et, sz)) {vs : Array Value} {u : Value} (k : IntKind) (j : Int) (h0 : 0 ≤ j) (h1 : j < n) (hp : (part et vs (j.toNat * sz)).run P w = .ok u w) :
    (Instr.index t (.agg vs) (.int k j)).run P w = .ok u w := by
  obtain ⟨h2, ⟨i, hi, hs⟩, h3⟩ := tArr_spec h
  simp [Instr.index, asIntOf, run_underlying h2, h0, h1, run_sizeOf hi, hs, hp]

theorem run_index_str {t : TypeId} (h : tKind P t = some .str) (s : ByteArray) (k : IntKind) (j : Int) (h0 : 0 ≤ j) (h1 : j < s.size) :
    (Instr.index t (.string s) (.int k j)).run P w = .ok (.int .u8 (s.data.toList.getD j.toNat 0).toNat) w := by
  have hlt : j.toNat < s.size := by omega
  have hlt' : j.toNat < s.data.size := hlt
  simp only [Instr.index, asIntOf, Sem.run_bind, Sem.run_pure, Result.andThen, run_underlying (tKind_str h), if_pos h0]
  have e : s[j.toNat]? = some (s[j.toNat]'hlt) := getElem?_pos s j.toNat hlt
  rw [e]
  simp only [Sem.run_pure, List.getD, Array.getElem?_toList, Array.getElem?_eq_getElem hlt', Option.getD_some]
  rfl

end
end Go.Proofs.YtpjncojljamacaaGreat.AM
set_option linter.unusedVariables false
set_option linter.unusedSimpArgs false
namespace Go.Proofs.YtpjncojljamacaaGreat.AM
open Go Go.RowKit

section
variable {P : Program} {X O : Nat → Prop} {w0 : World} {M : List MO} {ρ : Nat → Option Nat} {E : Nat → Prop} {w : World}

def BoundIs (x : Option Value) (d : Nat) (l : Int) : Prop := match x with
  | none => l = d
  | some v => ∃ k, v = .int k l

theorem idx_spec {x : AV} {j : Int} {v : Value} (hx : RepA M ρ E w x v) (h : idx x = some j) : ∃ k, v = .int k j := by
  unfold idx at h
  split at h
  · cases h; exact ⟨_, inv_int hx⟩
  · cases h

theorem bound_spec {ev : Operand → AV} {rv : Operand → Value} (hev : ∀ x, RepA M ρ E w (ev x) (rv x)) {x : Option Operand} {d : Nat} {l : Int} (h : bound (x.map ev) d = some l) : BoundIs (x.map rv) d l := by
  cases x with
  | none => simp [bound] at h; exact h.symm
  | some o => simp only [Option.map_some, bound] at h; exact idx_spec (hev o) h



theorem run_bounds_none {isSlice : Bool} {len cap : Nat} {lo hi : Option Value} {l h : Int} (hlo : BoundIs lo 0 l) (hhi : BoundIs hi len h) (h0 : 0 ≤ l) (h1 : l ≤ h) (h2 : h ≤ cap) :
    (Instr.sliceBounds isSlice len cap lo hi none).run P w = .ok (l.toNat, h.toNat, cap) w := by
  have hle : l ≤ (h.toNat : Int) := by omega
  cases hi with
  | none =>
    simp only [BoundIs] at hhi
    subst hhi
    cases lo with
    | none => simp only [BoundIs] at hlo; subst hlo; simp [Instr.sliceBounds]
    | some v => obtain ⟨k, rfl⟩ := hlo; simp [Instr.sliceBounds, run_sliceBound w k l len _ h0 (by omega)]
  | some u =>
    obtain ⟨k2, rfl⟩ := hhi
    cases lo with
    | none => simp only [BoundIs] at hlo; subst hlo; simp [Instr.sliceBounds, run_sliceBound w k2 h cap _ (by omega) h2]
    | some v => obtain ⟨k, rfl⟩ := hlo; simp [Instr.sliceBounds, run_sliceBound w k2 h cap _ (by omega) h2, run_sliceBound w k l h.toNat _ h0 hle]

theorem run_bounds_some {isSlice : Bool} {len cap : Nat} {lo hi : Option Value} {mx : Value} {l h m : Int} (hlo : BoundIs lo 0 l) (hhi : BoundIs hi len h) (hm : ∃ k, mx = .int k m) (hs : hi.isSome = true)
    (h0 : 0 ≤ l) (h1 : l ≤ h) (h2 : h ≤ m) (h3 : m ≤ cap) : (Instr.sliceBounds isSlice len cap lo hi (some mx)).run P w = .ok (l.toNat, h.toNat, m.toNat) w := by
  have hle : l ≤ (h.toNat : Int) := by omega
  have hle2 : h ≤ (m.toNat : Int) := by omega
  obtain ⟨km, rfl⟩ := hm
  cases hi with
  | none => simp at hs
  | some u =>
    obtain ⟨k2, rfl⟩ := hhi
    cases lo with
    | none => simp only [BoundIs] at hlo; subst hlo; simp [Instr.sliceBounds, run_sliceBound w km m cap _ (by omega) h3, run_sliceBound w k2 h m.toNat _ (by omega) hle2]
    | some v => obtain ⟨k, rfl⟩ := hlo; simp [Instr.sliceBounds, run_sliceBound w km m cap _ (by omega) h3, run_sliceBound w k2 h m.toNat _ (by omega) hle2, run_sliceBound w k l h.toNat _ h0 hle]

theorem run_slice_none {t : TypeId} {e : Elem} (ht : tElem P t = some e) {a : Option Addr} {len cap : Nat} {lo hi : Option Value} {l h : Int} (hlo : BoundIs lo 0 l) (hhi : BoundIs hi len h) (h0 : 0 ≤ l) (h1 : l ≤ h) (h2 : h ≤ cap) :
    (Instr.sliceAt t (.slice a len cap) lo hi none).run P w = .ok (.slice (if cap = l.toNat then a else a.map (·.add (l.toNat * e.sz))) (h.toNat - l.toNat) (cap - l.toNat)) w := by
  obtain ⟨h3, i, hi', hs, _⟩ := tElem_spec ht
  simp [Instr.sliceAt, Instr.slice, run_underlying h3, run_bounds_none hlo hhi h0 h1 h2, run_sizeOf hi', hs]

theorem run_slice_some {t : TypeId} {e : Elem} (ht : tElem P t = some e) {a : Option Addr} {len cap : Nat} {lo hi : Option Value} {mx : Value} {l h m : Int} (hlo : BoundIs lo 0 l) (hhi : BoundIs hi len h) (hm : ∃ k, mx = .int k m)
    (hs : hi.isSome = true) (h0 : 0 ≤ l) (h1 : l ≤ h) (h2 : h ≤ m) (h3 : m ≤ cap) :
    (Instr.sliceAt t (.slice a len cap) lo hi (some mx)).run P w = .ok (.slice (if m.toNat = l.toNat then a else a.map (·.add (l.toNat * e.sz))) (h.toNat - l.toNat) (m.toNat - l.toNat)) w := by
  obtain ⟨h4, i, hi', hs', _⟩ := tElem_spec ht
  simp [Instr.sliceAt, Instr.slice, run_underlying h4, run_bounds_some hlo hhi hm hs h0 h1 h2 h3, run_sizeOf hi', hs']

theorem run_slice_str {t : TypeId} (ht : tKind P t = some .str) {s : ByteArray} {lo hi : Option Value} {l h : Int} (hlo : BoundIs lo 0 l) (hhi : BoundIs hi s.size h) (h0 : 0 ≤ l) (h1 : l ≤ h) (h2 : h ≤ s.size) :
    (Instr.sliceAt t (.string s) lo hi none).run P w = .ok (.string (s.extract l.toNat h.toNat)) w := by
  simp [Instr.sliceAt, Instr.slice, run_underlying (tKind_str ht), run_bounds_none hlo hhi h0 h1 h2]

theorem rep_sub {sz : Nat} {xs : List IV} {a : Option Addr} {cap : Nat} (h : RepI E w (.sl sz xs) (.slice a xs.length cap)) (l n m : Nat) (h1 : l + n ≤ m) (h2 : l + n ≤ xs.length) (h3 : m ≤ cap) {sz' : Nat} (hsz : sz = sz' ∨ xs = []) :
    RepI E w (.sl sz ((xs.drop l).take n)) (.slice (if m = l then a else a.map (·.add (l * sz'))) n (m - l)) := by
  obtain ⟨A, c, hv, hc, hh⟩ := inv_rep_sl h
  cases hv
  have hlen : ((xs.drop l).take n).length = n := by rw [List.length_take, List.length_drop]; omega
  rcases Nat.eq_zero_or_pos n with h0 | h0
  · subst h0; simp only [List.take_zero]; exact .sl0 _ _ _
  rcases hh with rfl | ⟨b, o, rfl, hE, hb, hs, hcell⟩
  · simp at h2; omega
  · rcases hsz with rfl | rfl
    · have hne : m ≠ l := by omega
      rw [if_neg hne, Option.map_some, Addr.add_lit]
      have := rep_sl_mk (E := E) (w := w) (sz := sz) (xs := (xs.drop l).take n) (b := b) (o := o + l * sz) (c := m - l) (by rw [hlen]; omega) hE hb
        (fun i x hx => hs _ x (getElem?_drop_take _ _ _ _ _ hx).1)
        (fun i x j y hx hy => by
          obtain ⟨u, h1, h2⟩ := hcell _ x j y (getElem?_drop_take _ _ _ _ _ hx).1 hy
          refine ⟨u, ?_, h2⟩
          rw [← h1, Nat.add_mul, Nat.add_assoc, Nat.add_assoc])
      rw [hlen] at this
      exact this
    · simp at h2; omega

theorem sliceAV_sound (hm : MemOk X O w0 M ρ w) {t : TypeId} {x : Operand} {lo hi mx : Option Operand} {r : AV} {ev : Operand → AV} {rv : Operand → Value} (hev : ∀ x, RepA M ρ (excl X M ρ) w (ev x) (rv x))
    (h : sliceAV P t M (ev x) (lo.map ev) (hi.map ev) (mx.map ev) = some r) (hmx : mx.isSome = true → hi.isSome = true) :
    ∃ u, (Instr.sliceAt t (rv x) (lo.map rv) (hi.map rv) (mx.map rv)).run P w = .ok u w ∧ RepA M ρ (excl X M ρ) w r u := by
  have hx := hev x
  unfold sliceAV at h
  split at h
  · -- a string
    rename_i s hxs
    rw [hxs] at hx
    rw [inv_str hx]
    split at h
    · rename_i hk
      have hk : tKind P t = some .str := by
        cases ht : tKind P t with
        | none => rw [ht] at hk; cases hk
        | some d => cases d <;> rw [ht] at hk <;> first | rfl | cases hk
      cases mx with
      | some m => simp at h
      | none =>
        simp only [Option.map_none] at h
        cases hl : bound (lo.map ev) 0 with
        | none => rw [hl] at h; cases h
        | some l =>
          cases hh : bound (hi.map ev) s.size with
          | none => rw [hl, hh] at h; cases h
          | some h' =>
            rw [hl, hh] at h
            simp only [Option.bind_some] at h
            by_cases hc : 0 ≤ l ∧ l ≤ h' ∧ h' ≤ (s.size : Int)
            · rw [if_pos hc] at h
              cases h
              exact ⟨_, run_slice_str hk (bound_spec hev hl) (bound_spec hev hh) hc.1 hc.2.1 hc.2.2, .iv _ _ (.str _)⟩
            · rw [if_neg hc] at h; cases h
    · cases h
  · -- a frozen slice
    rename_i sz xs hxs
    rw [hxs] at hx
    cases hx with
    | iv _ v hx =>
      obtain ⟨A, c, hv, hc, _⟩ := inv_rep_sl hx
      rw [hv] at hx ⊢
      cases he : tElem P t with
      | none => rw [he] at h; cases h
      | some e =>
        cases hl : bound (lo.map ev) 0 with
        | none => rw [he, hl] at h; cases h
        | some l =>
          cases hh : bound (hi.map ev) xs.length with
          | none => rw [he, hl, hh] at h; cases h
          | some h' =>
            rw [he, hl, hh] at h
            simp only [Option.bind_some] at h
            cases mx with
            | none =>
              simp only [Option.map_none] at h
              split at h
              · rename_i hc'
                cases h
                obtain ⟨hsz, h0, h1, h2⟩ := hc'
                refine ⟨_, run_slice_none he (bound_spec hev hl) (bound_spec hev hh) h0 h1 (by omega), .iv _ _ ?_⟩
                exact rep_sub hx l.toNat (h'.toNat - l.toNat) c (by omega) (by omega) (Nat.le_refl _) hsz
              · cases h
            | some m =>
              simp only [Option.map_some] at h
              cases hm' : idx (ev m) with
              | none => rw [hm'] at h; cases h
              | some m' =>
                rw [hm'] at h
                simp only [Option.bind_some] at h
                split at h
                · rename_i hc'
                  obtain ⟨hsz, h0, h1, h2, h3⟩ := hc'
                  have hrun := run_slice_some (P := P) (w := w) (a := A) (cap := c) he (bound_spec hev hl) (bound_spec hev hh) (idx_spec (hev m) hm') (by simpa using hmx rfl) h0 h1 h2 (by omega)
                  cases h
                  refine ⟨_, hrun, ?_⟩
                  split
                  · rename_i e1
                    subst e1
                    have e2 : h'.toNat - m'.toNat = 0 := by omega
                    rw [e2, Nat.sub_self]; exact .nilsl _
                  · exact .iv _ _ (rep_sub hx l.toNat (h'.toNat - l.toNat) m'.toNat (by omega) (by omega) (by omega) hsz)
                · cases h
  · -- a row of the call's own
    rename_i k off len n hxs
    rw [hxs] at hx
    cases he : tElem P t with
    | none => rw [he] at h; cases h
    | some e =>
      cases hr : rowAt M k n with
      | none => rw [he, hr] at h; cases h
      | some q =>
        obtain ⟨m0, T, sz, xs⟩ := q
        obtain ⟨hM, hn⟩ := rowAt_spec hr
        obtain ⟨g1, A, c, hv, hlc, g2⟩ := msl_spec hx hM hn
        rw [hv]
        cases hl : bound (lo.map ev) 0 with
        | none => rw [he, hr, hl] at h; cases h
        | some l =>
          cases hh : bound (hi.map ev) len with
          | none => rw [he, hr, hl, hh] at h; cases h
          | some h' =>
            rw [he, hr, hl, hh] at h
            simp only [Option.bind_some] at h
            cases mx with
            | none =>
              simp only [Option.map_none] at h
              split at h
              · rename_i hc'
                cases h
                obtain ⟨hsz, h0, h1, h2⟩ := hc'
                refine ⟨_, run_slice_none he (bound_spec hev hl) (bound_spec hev hh) h0 h1 (by omega), ?_⟩
                refine .msl k _ _ n _ m0 T sz xs hM (by omega) ⟨_, _, _, rfl⟩ (fun _ => ⟨by omega, _, _, rfl, by omega, ?_⟩)
                cases hk : ρ k with
                | none => rw [hk] at g2; exact ⟨by omega, g2.2⟩
                | some b =>
                  rw [hk] at g2
                  obtain ⟨g3, arr, fz, g4, g5⟩ := g2
                  refine ⟨fun hpos => ?_, arr, fz, g4, ?_⟩
                  · have hne : c ≠ l.toNat := by omega
                    rw [if_neg hne, g3 (by omega), Option.map_some, Addr.add_lit, ← hsz, Nat.add_mul]
                  · rw [show off + l.toNat + (c - l.toNat) = off + c from by omega]; exact g5
              · cases h
            | some m =>
              simp only [Option.map_some] at h
              cases hm' : idx (ev m) with
              | none => rw [hm'] at h; cases h
              | some m' =>
                rw [hm'] at h
                simp only [Option.bind_some] at h
                split at h
                · rename_i hc'
                  obtain ⟨hsz, h0, h1, h2, h3⟩ := hc'
                  subst h1 h2
                  have hrun := run_slice_some (P := P) (w := w) (a := A) (cap := c) he (bound_spec hev hl) (bound_spec hev hh) (idx_spec (hev m) hm') (by simpa using hmx rfl) h0 (Int.le_refl _) (Int.le_refl _) (by omega)
                  cases h
                  refine ⟨_, hrun, ?_⟩
                  rw [Nat.sub_self]; exact .nilsl _
                · cases h
  · -- none
    rename_i hxs
    rw [hxs] at hx
    obtain ⟨A, hv⟩ := inv_nilsl hx
    rw [hv]
    cases he : tElem P t with
    | none => rw [he] at h; cases h
    | some e =>
      cases hl : bound (lo.map ev) 0 with
      | none => rw [he, hl] at h; cases h
      | some l =>
        cases hh : bound (hi.map ev) 0 with
        | none => rw [he, hl, hh] at h; cases h
        | some h' =>
          rw [he, hl, hh] at h
          simp only [Option.bind_some] at h
          cases mx with
          | none =>
            simp only [Option.map_none] at h
            split at h
            · rename_i hc'
              cases h
              obtain ⟨h0, h1⟩ := hc'
              subst h0 h1
              exact ⟨_, run_slice_none he (bound_spec hev hl) (bound_spec hev hh) (by omega) (by omega) (by omega), .nilsl _⟩
            · cases h
          | some m =>
            simp only [Option.map_some] at h
            cases hm' : idx (ev m) with
            | none => rw [hm'] at h; cases h
            | some m' =>
              rw [hm'] at h
              simp only [Option.bind_some] at h
              split at h
              · rename_i hc'
                obtain ⟨h0, h1, h2⟩ := hc'
                subst h0 h1 h2
                have hrun := run_slice_some (P := P) (w := w) (a := A) (cap := 0) he (bound_spec hev hl) (bound_spec hev hh) (idx_spec (hev m) hm') (by simpa using hmx rfl) (by omega) (by omega) (by omega) (by omega)
                cases h
                exact ⟨_, hrun, .nilsl _⟩
              · cases h
  · cases h

theorem lenAV_sound (hm : MemOk X O w0 M ρ w) {x : AV} {n : Nat} {v : Value} (hx : RepA M ρ (excl X M ρ) w x v) (h : lenAV M x = some n) : (∃ A c, v = .slice A n c) ∨ ∃ s, x = .iv (.str s) ∧ v = .string s ∧ n = s.size := by
  unfold lenAV at h
  split at h
  · cases h
    cases hx with
    | iv _ _ hx => obtain ⟨A, c, hv, _⟩ := inv_rep_sl hx; exact .inl ⟨A, c, hv⟩
  · cases h; obtain ⟨A, hv⟩ := inv_nilsl hx; exact .inl ⟨A, 0, hv⟩
  · rename_i k off len n'
    cases hr : rowAt M k n' with
    | none => rw [hr] at h; cases h
    | some q =>
      obtain ⟨m0, T, sz, xs⟩ := q
      rw [hr] at h
      simp only [Option.bind_some] at h
      split at h
      · cases h
        obtain ⟨hM, hn⟩ := rowAt_spec hr
        obtain ⟨_, A, c, hv, _⟩ := msl_spec hx hM hn
        exact .inl ⟨A, c, hv⟩
      · cases h
  · cases h; exact .inr ⟨_, rfl, inv_str hx, rfl⟩
  · cases h

theorem run_len_slc {t : TypeId} (h : tKind P t = some .slc) (ts : Array TypeId) (ht : ts[0]? = some t) (ty : TypeId) (A : Option Addr) (n c : Nat) : (Builtin.len_ ts ty #[.slice A n c]).run P w = .ok (.int .i64 n) w := by
  obtain ⟨e, he⟩ := tKind_slc h
  simp [Builtin.len_, ht, run_underlying he, goInt]

theorem run_len_str {t : TypeId} (h : tKind P t = some .str) (ts : Array TypeId) (ht : ts[0]? = some t) (ty : TypeId) (s : ByteArray) : (Builtin.len_ ts ty #[.string s]).run P w = .ok (.int .i64 s.size) w := by
  simp [Builtin.len_, ht, run_underlying (tKind_str h), goInt]

theorem min_sound {k : IntKind} : ∀ (l : List AV) (vs : List Value) (a c : Int), l.length = vs.length → (∀ (i : Nat) (x : AV) (v : Value), l[i]? = some x → vs[i]? = some v → RepA M ρ E w x v) → minAll k a l = some c →
    (vs.foldlM Builtin.min2 (.int k a)).run P w = .ok (.int k c) w
  | [], [], a, c, _, _, h => by simp [minAll] at h; subst h; simp
  | x :: l, v :: vs, a, c, hl, hr, h => by
    have hx : ∃ k' b, x = .iv (.int k' b) := by
      cases x with
      | iv y => cases y with
        | int k' b => exact ⟨k', b, rfl⟩
        | _ => simp [minAll] at h
      | _ => simp [minAll] at h
    obtain ⟨k', b, rfl⟩ := hx
    simp only [minAll] at h
    split at h
    · rename_i e; subst e
      have hv := inv_int (hr 0 _ _ rfl rfl)
      subst hv
      have ih := min_sound l vs (min a b) c (by simpa using hl) (fun i x v h1 h2 => hr (i + 1) x v h1 h2) h
      simp only [List.foldlM_cons, Builtin.min2, pure_bind]
      rw [show (if b < a then b else a) = min a b from by rw [Int.min_def]; split <;> split <;> omega]
      exact ih
    · cases h
  | [], _ :: _, _, _, hl, _, _ => by simp at hl
  | _ :: _, [], _, _, hl, _, _ => by simp at hl

theorem max_sound {k : IntKind} : ∀ (l : List AV) (vs : List Value) (a c : Int), l.length = vs.length → (∀ (i : Nat) (x : AV) (v : Value), l[i]? = some x → vs[i]? = some v → RepA M ρ E w x v) → maxAll k a l = some c →
    (vs.foldlM Builtin.max2 (.int k a)).run P w = .ok (.int k c) w
  | [], [], a, c, _, _, h => by simp [maxAll] at h; subst h; simp
  | x :: l, v :: vs, a, c, hl, hr, h => by
    have hx : ∃ k' b, x = .iv (.int k' b) := by
      cases x with
      | iv y => cases y with
        | int k' b => exact ⟨k', b, rfl⟩
        | _ => simp [maxAll] at h
      | _ => simp [maxAll] at h
    obtain ⟨k', b, rfl⟩ := hx
    simp only [maxAll] at h
    split at h
    · rename_i e; subst e
      have hv := inv_int (hr 0 _ _ rfl rfl)
      subst hv
      have ih := max_sound l vs (max a b) c (by simpa using hl) (fun i x v h1 h2 => hr (i + 1) x v h1 h2) h
      simp only [List.foldlM_cons, Builtin.max2, pure_bind]
      rw [show (if b > a then b else a) = max a b from by rw [Int.max_def]; split <;> split <;> omega]
      exact ih
    · cases h
  | [], _ :: _, _, _, hl, _, _ => by simp at hl
  | _ :: _, [], _, _, hl, _, _ => by simp at hl

end
end Go.Proofs.YtpjncojljamacaaGreat.AM
set_option linter.unusedVariables false
set_option linter.unusedSimpArgs false
namespace Go.Proofs.YtpjncojljamacaaGreat.AM
open Go Go.RowKit

section
variable {P : Program} {X O : Nat → Prop} {w0 : World} {M : List MO} {ρ : Nat → Option Nat} {E : Nat → Prop} {w : World}

theorem Evo.refl (M : List MO) (ρ : Nat → Option Nat) (E : Nat → Prop) (w : World) : Evo M M ρ ρ E E w w := Evo.world (Nat.le_refl _) (fun _ _ => rfl)

theorem Evo.trans {M M' M'' : List MO} {ρ ρ' ρ'' : Nat → Option Nat} {E E' E'' : Nat → Prop} {w w' w'' : World} (h : Evo M M' ρ ρ' E E' w w') (k : Evo M' M'' ρ' ρ'' E' E'' w' w'') : Evo M M'' ρ ρ'' E E'' w w'' where
  stay := h.stay.trans k.stay
  var i T cs hi := by
    obtain ⟨cs', h1, h2⟩ := h.var i T cs hi
    obtain ⟨cs'', h3, h4⟩ := k.var i T cs' h1
    exact ⟨cs'', h3, h4.trans h2⟩
  oth i d hi := by
    obtain ⟨d', h1, h2, h3⟩ := h.oth i d hi
    obtain ⟨d'', h4, h5, h6⟩ := k.oth i d' h1
    exact ⟨d'', h4, h5.trans h2, h6.trans h3⟩
  row i m T sz xs hi := by
    obtain ⟨m', xs', h1, h2, h3⟩ := h.row i m T sz xs hi
    obtain ⟨m'', xs'', h4, h5, h6⟩ := k.row i m' T sz xs' h1
    refine ⟨m'', xs'', h4, Nat.le_trans h2 h5, fun e => ?_⟩
    obtain ⟨g1, g2⟩ := h3 (by omega)
    obtain ⟨g3, g4⟩ := h6 (by omega)
    refine ⟨g3.trans g1, fun b arr fz hb ha => ?_⟩
    obtain ⟨arr', fz', g5, g6⟩ := g2 b arr fz hb ha
    obtain ⟨arr'', fz'', g7, g8⟩ := g4 b arr' fz' (g1.trans hb) g5
    exact ⟨arr'', fz'', g7, Nat.le_trans g6 g8⟩

def StepOk (P : Program) (X O : Nat → Prop) (w0 : World) (M : List MO) (ρ : Nat → Option Nat) (w : World) (v : AV) (M' : List MO) (r : Result Next) : Prop :=
  ∃ nx u w' ρ', r = .ok nx w' ∧ (nx = .value u ∨ (nx = .skip ∧ u = undef)) ∧ RepA M' ρ' (excl X M' ρ') w' v u ∧ MemOk X O w0 M' ρ' w' ∧ Evo M M' ρ ρ' (excl X M ρ) (excl X M' ρ') w w'

theorem StepOk.same (hm : MemOk X O w0 M ρ w) {v : AV} {u : Value} {r : Result Next} (hr : r = .ok (.value u) w) (hv : RepA M ρ (excl X M ρ) w v u) : StepOk P X O w0 M ρ w v M r :=
  ⟨_, u, w, ρ, hr, .inl rfl, hv, hm, Evo.refl _ _ _ _⟩

theorem News.alloc (w : World) (o : Obj) : News w (w.alloc o) o := ⟨rfl, rfl, rfl, rfl⟩

theorem unfrozen0 {sz : Nat} (arr : Array Value) : Unfrozen arr (0, 0) sz := fun i hi => by simp

theorem step_newvar (hm : MemOk X O w0 M ρ w) (T : TypeId) {cs : List AV} {arr : Array Value} (hl : arr.size = cs.length)
    (hc : ∀ (i : Nat) (y : AV) (u : Value), cs[i]? = some y → arr[i]? = some u → RepA M ρ (excl X M ρ) w y u) {w' : World} (hn : News w w' (.cells arr T (0, 0))) {r : Result Next}
    (hr : r = .ok (.value (.pointer (some ⟨w.heap.size, 0, none⟩))) w') : StepOk P X O w0 M ρ w (.mp M.length 0) (M ++ [.var T cs]) r := by
  have hev := Evo.push (X := X) (M := M) (ρ := ρ) (w := w) (w' := w') (.var T cs) (some w.heap.size) (by rw [hn.size]; omega) (fun j hj => hn.old hj) (fun x hx => by cases hx; exact Nat.le_refl _)
  have hobj : ObjRep (M ++ [.var T cs]) (updρ ρ M.length (some w.heap.size)) (excl X (M ++ [.var T cs]) (updρ ρ M.length (some w.heap.size))) w' M.length (.var T cs) :=
    ⟨w.heap.size, arr, (0, 0), updρ_same _ _ _, hn.new, unfrozen0 _, hl, fun i y u hy hu => (hc i y u hy hu).mono hev⟩
  exact ⟨_, _, w', _, hr, .inl rfl, .mp _ _ T cs w.heap.size (by simp) (updρ_same _ _ _), hm.push _ _ (hn.keep hm.keep) (by rw [hn.size]; omega) (fun j hj => hn.old hj) (fun x hx => by cases hx; exact Nat.le_refl _) hobj, hev⟩

theorem step_newrowF {fz : Nat × Nat} (hm : MemOk X O w0 M ρ w) (T : TypeId) {sz : Nat} {xs : List IV} {arr : Array Value} {cap : Nat} (hcap : xs.length ≤ cap) (hsz : cap * sz ≤ arr.size) (hf : ∀ (i : Nat) (x : IV), xs[i]? = some x → x.fits sz = true)
    (hc : ∀ (i : Nat) (x : IV) (j : Nat) (y : IV), xs[i]? = some x → x.cells[j]? = some y → ∃ u, arr[i * sz + j]? = some u ∧ RepI (excl X M ρ) w y u) (hu : Unfrozen arr fz sz) {w' : World} (hn : News w w' (.cells arr T fz)) {r : Result Next}
    (hr : r = .ok (.value (.slice (some ⟨w.heap.size, 0, none⟩) xs.length cap)) w') : StepOk P X O w0 M ρ w (.msl M.length 0 xs.length xs.length) (M ++ [.row true T sz xs]) r := by
  have hev := Evo.push (X := X) (M := M) (ρ := ρ) (w := w) (w' := w') (.row true T sz xs) (some w.heap.size) (by rw [hn.size]; omega) (fun j hj => hn.old hj) (fun x hx => by cases hx; exact Nat.le_refl _)
  have hle : xs.length * sz ≤ arr.size := Nat.le_trans (Nat.mul_le_mul_right _ hcap) hsz
  have hobj : ObjRep (M ++ [.row true T sz xs]) (updρ ρ M.length (some w.heap.size)) (excl X (M ++ [.row true T sz xs]) (updρ ρ M.length (some w.heap.size))) w' M.length (.row true T sz xs) := by
    refine ⟨hf, ?_⟩
    rw [updρ_same]
    exact ⟨arr, fz, hn.new, hu, hle, fun i x j y hx hy => by obtain ⟨u, h1, h2⟩ := hc i x j y hx hy; exact ⟨u, h1, h2.mono hev.stay⟩⟩
  refine ⟨_, _, w', _, hr, .inl rfl, .msl _ _ _ _ _ true T sz xs (by simp) (Nat.le_refl _) ⟨_, _, _, rfl⟩ (fun _ => ⟨by omega, _, cap, rfl, hcap, ?_⟩),
    hm.push _ _ (hn.keep hm.keep) (by rw [hn.size]; omega) (fun j hj => hn.old hj) (fun x hx => by cases hx; exact Nat.le_refl _) hobj, hev⟩
  rw [updρ_same]
  exact ⟨fun _ => by simp, arr, fz, hn.new, by simpa using hsz⟩

theorem step_newrow (hm : MemOk X O w0 M ρ w) (T : TypeId) {sz : Nat} {xs : List IV} {arr : Array Value} {cap : Nat} (hcap : xs.length ≤ cap) (hsz : cap * sz ≤ arr.size) (hf : ∀ (i : Nat) (x : IV), xs[i]? = some x → x.fits sz = true)
    (hc : ∀ (i : Nat) (x : IV) (j : Nat) (y : IV), xs[i]? = some x → x.cells[j]? = some y → ∃ u, arr[i * sz + j]? = some u ∧ RepI (excl X M ρ) w y u) {w' : World} (hn : News w w' (.cells arr T (0, 0))) {r : Result Next}
    (hr : r = .ok (.value (.slice (some ⟨w.heap.size, 0, none⟩) xs.length cap)) w') : StepOk P X O w0 M ρ w (.msl M.length 0 xs.length xs.length) (M ++ [.row true T sz xs]) r :=
  step_newrowF hm T hcap hsz hf hc (unfrozen0 _) hn hr

theorem step_nilrow (hm : MemOk X O w0 M ρ w) (T sz : Nat) {A : Option Addr} {r : Result Next} (hr : r = .ok (.value (.slice A 0 0)) w) : StepOk P X O w0 M ρ w (.msl M.length 0 0 0) (M ++ [.row true T sz []]) r := by
  have hev := Evo.push (X := X) (M := M) (ρ := ρ) (w := w) (w' := w) (.row true T sz []) none (Nat.le_refl _) (fun j hj => rfl) (fun x hx => by cases hx)
  have hobj : ObjRep (M ++ [.row true T sz []]) (updρ ρ M.length none) (excl X (M ++ [.row true T sz []]) (updρ ρ M.length none)) w M.length (.row true T sz []) := by
    refine ⟨by simp, ?_⟩
    rw [updρ_same]
  refine ⟨_, _, w, _, hr, .inl rfl, .msl _ _ _ _ _ true T sz [] (by simp) (Nat.le_refl _) ⟨_, _, _, rfl⟩ (fun _ => ⟨by omega, A, 0, rfl, by omega, ?_⟩),
    hm.push _ _ hm.keep (Nat.le_refl _) (fun j hj => rfl) (fun x hx => by cases hx) hobj, hev⟩
  rw [updρ_same]; exact ⟨rfl, rfl⟩

/-! ### stores into a block -/

theorem wrote_setCell {b o : Nat} {arr : Array Value} {T : TypeId} {fz : Nat × Nat} (h : w.heap[b]? = some (.cells arr T fz)) (v : Value) :
    Wrote w (w.setCell ⟨b, o, none⟩ v) b ∧ (w.setCell ⟨b, o, none⟩ v).heap[b]? = some (.cells (arr.setIfInBounds o v) T fz) := by
  refine ⟨⟨rfl, rfl, rfl, by simp, fun j hj => Below.heap_setCell _ _ _ _ hj⟩, ?_⟩
  simp [World.setCell, Array.getElem?_modify, h]

theorem run_storeCells {sz : Nat} (b o : Nat) {T : TypeId} {fz : Nat × Nat} : ∀ (news : List Value) (i : Nat) (w : World) (arr : Array Value), w.heap[b]? = some (.cells arr T fz) → Unfrozen arr fz sz → o + i + news.length ≤ arr.size →
    (∀ u ∈ news, u.oneCell' = true) → ∃ w', (storeCells ⟨b, o, none⟩ news i).run P w = .ok () w' ∧ Wrote w w' b ∧ ∃ arr', w'.heap[b]? = some (.cells arr' T fz) ∧ arr'.size = arr.size ∧
      ∀ p, arr'[p]? = if o + i ≤ p ∧ p < o + i + news.length then news[p - (o + i)]? else arr[p]?
  | [], i, w, arr, h, hf, hl, h1 => ⟨w, by simp [storeCells], Wrote.refl w b, arr, h, rfl, fun p => by rw [if_neg (by simp only [List.length_nil]; omega)]⟩
  | v :: news, i, w, arr, h, hf, hl, h1 => by
    have hlt : o + i < arr.size := by simp at hl; omega
    have hcell : w.cell? ⟨b, o + i, none⟩ = some arr[o + i] := by rw [cell_of_cells h, Array.getElem?_eq_getElem hlt]
    have hfr : w.frozen? ⟨b, o + i, none⟩ = false := by simp only [World.frozen?, h]; exact hf _ (by omega)
    have hst : (store (Addr.add ⟨b, o, none⟩ i) v).run P w = .ok () (w.setCell ⟨b, o + i, none⟩ v) := by
      rw [Addr.add_lit, run_store P w _ _ _ (h1 v (by simp)), hcell]
      simp [hfr]
    obtain ⟨hw1, hh1⟩ := wrote_setCell (o := o + i) h v
    obtain ⟨w', hr, hw2, arr', hh2, hs2, hp⟩ := run_storeCells b o news (i + 1) (w.setCell ⟨b, o + i, none⟩ v) (arr.setIfInBounds (o + i) v) hh1 (by intro q hq; exact hf q (by simpa using hq))
      (by simp at hl ⊢; omega) (fun u hu => h1 u (by simp [hu]))
    refine ⟨w', ?_, hw1.trans hw2, arr', hh2, by simpa using hs2, fun p => ?_⟩
    · simp only [storeCells, Sem.run_bind, hst, Result.andThen, hr]
    · rw [hp p, List.length_cons]
      by_cases hp1 : o + (i + 1) ≤ p ∧ p < o + (i + 1) + news.length
      · rw [if_pos hp1, if_pos (by omega), show p - (o + i) = (p - (o + (i + 1))) + 1 from by omega, List.getElem?_cons_succ]
      · rw [if_neg hp1]
        by_cases hp2 : p = o + i
        · subst hp2
          rw [if_pos (by omega), Nat.sub_self, List.getElem?_cons_zero, Array.getElem?_setIfInBounds_self_of_lt hlt]
        · rw [if_neg (by omega), Array.getElem?_setIfInBounds_ne (by omega)]

theorem setCells_length {α : Type} (cs : List α) (off : Nat) (xs : List α) (h : off + xs.length ≤ cs.length) : (setCells cs off xs).length = cs.length := by
  unfold setCells
  split
  · simp
  · simp [List.length_take, List.length_drop]; omega

theorem setCells_get {α : Type} (cs : List α) (off : Nat) (xs : List α) (h : off + xs.length ≤ cs.length) (p : Nat) : (setCells cs off xs)[p]? = if off ≤ p ∧ p < off + xs.length then xs[p - off]? else cs[p]? := by
  unfold setCells
  split
  · rename_i x
    simp only [List.length_singleton] at h ⊢
    by_cases hp : p = off
    · subst hp; rw [if_pos (by omega), Nat.sub_self, List.getElem?_set_self (by omega)]; rfl
    · rw [if_neg (by omega), List.getElem?_set_ne (Ne.symm hp)]
  · by_cases h1 : p < off
    · rw [if_neg (by omega), List.append_assoc, List.getElem?_append_left (by simp [List.length_take]; omega), List.getElem?_take_of_lt h1]
    · by_cases h2 : p < off + xs.length
      · rw [if_pos (by omega), List.append_assoc, List.getElem?_append_right (by simp [List.length_take]; omega)]
        have : (cs.take off).length = off := by simp [List.length_take]; omega
        rw [this, List.getElem?_append_left (by omega)]
      · rw [if_neg (by omega), List.getElem?_append_right (by simp [List.length_take]; omega)]
        have : (cs.take off ++ xs).length = off + xs.length := by simp [List.length_take]; omega
        rw [this, List.getElem?_drop, show off + xs.length + (p - (off + xs.length)) = p from by omega]

theorem tSize_spec {t : TypeId} {n : Nat} (h : tSize P t = some n) : ∃ i, P.info? t = some i ∧ i.size = n := by
  unfold tSize at h
  cases hi : P.info? t with
  | none => rw [hi] at h; cases h
  | some i => rw [hi] at h; cases h; exact ⟨i, rfl, rfl⟩

theorem run_storeVar {t : TypeId} {n : Nat} (ht : tSize P t = some n) {b o : Nat} {v : Value} (hv : v.cells.size = n) {w' : World} (h : (storeCells ⟨b, o, none⟩ v.cells.toList).run P w = .ok () w') :
    (Instr.storeAt t (.pointer (some ⟨b, o, none⟩)) v).run P w = .ok () w' := by
  obtain ⟨i, hi, hs⟩ := tSize_spec ht
  simp [Instr.storeAt, Instr.sureAddr, storeVar, run_sizeOf hi, hs, hv, h]

theorem urun {s : Sem Unit} {w' : World} (h : s.run P w = .ok () w') : (do s; pure Next.skip : Sem Next).run P w = .ok .skip w' := by simp [h]

theorem cells_one {v : Value} {cs : List AV} {x : AV} (h : RepA M ρ E w x v) (hc : x.cells = some cs) (h1 : cs.all AV.one = true) : ∀ u ∈ v.cells.toList, u.oneCell' = true := by
  obtain ⟨h2, h3⟩ := rep_cells h hc
  intro u hu
  obtain ⟨i, hi⟩ := List.getElem?_of_mem hu
  rw [Array.getElem?_toList] at hi
  have hlt : i < cs.length := by rw [← h2]; exact (Array.getElem?_eq_some_iff.1 hi).1
  have hy := List.getElem?_eq_getElem hlt
  exact oneCell_of_oneA (h3 i _ u hy hi) (by simp at h1; exact h1 _ (List.mem_of_getElem? hy))

theorem step_storevar (hm : MemOk X O w0 M ρ w) {t : TypeId} {n : Nat} (ht : tSize P t = some n) {k off : Nat} {T : TypeId} {cs ys : List AV} {x : AV} {av xv : Value} (ha : RepA M ρ (excl X M ρ) w (.mp k off) av)
    (hx : RepA M ρ (excl X M ρ) w x xv) (hM : M[k]? = some (.var T cs)) (hys : x.cells = some ys) (hn : ys.length = n) (hle : off + n ≤ cs.length) (hone : ys.all AV.one = true) :
    StepOk P X O w0 M ρ w .any (M.set k (.var T (setCells cs off ys))) ((do Instr.storeAt t av xv; pure Next.skip : Sem Next).run P w) := by
  obtain ⟨T', cs', b, h1, hb, rfl⟩ := inv_mp ha
  obtain ⟨b', arr, fz, h2, h3, h4, h5, h6⟩ := hm.obj k _ hM
  rw [hb] at h2; cases h2
  obtain ⟨hc1, hc2⟩ := rep_cells hx hys
  obtain ⟨w', hr, hw, arr', hh, hs, hp⟩ := run_storeCells (P := P) b off xv.cells.toList 0 w arr h3 h4 (by simp; omega) (cells_one hx hys hone)
  have hlt := lt_of_get hM
  have hev := Evo.set (X := X) k b _ (.var T (setCells cs off ys)) hM hb rfl hw rfl (hm.other hlt hb)
  refine ⟨_, _, w', ρ, urun (run_storeVar ht (by omega) hr), .inr ⟨rfl, rfl⟩, .any _, hm.set k b _ _ hM hb hw hev ?_, hev⟩
  refine ⟨b, arr', fz, hb, hh, fun i hi => h4 i (by omega), by rw [setCells_length _ _ _ (by omega)]; omega, fun i y u hy hu => ?_⟩
  rw [setCells_get _ _ _ (by omega)] at hy
  rw [hp i] at hu
  simp only [Nat.add_zero, Array.length_toList, Array.getElem?_toList] at hu
  rw [hc1] at hu
  split at hy
  · rename_i hin
    rw [if_pos hin] at hu
    exact (hc2 _ y u hy hu).mono hev
  · rename_i hin
    rw [if_neg hin] at hu
    exact (h6 i y u hy hu).mono hev

end
end Go.Proofs.YtpjncojljamacaaGreat.AM
set_option linter.unusedVariables false
set_option linter.unusedSimpArgs false
namespace Go.Proofs.YtpjncojljamacaaGreat.AM
open Go Go.RowKit

section
variable {P : Program} {X O : Nat → Prop} {w0 : World} {M : List MO} {ρ : Nat → Option Nat} {E : Nat → Prop} {w : World}

theorem rep_frozen (hm : MemOk X O w0 M ρ w) {k off len n : Nat} {T : TypeId} {sz : Nat} {xs : List IV} {v : Value} (hx : RepA M ρ (excl X M ρ) w (.msl k off len n) v) (hM : M[k]? = some (.row false T sz xs)) (hn : n = xs.length) :
    RepI (excl X M ρ) w (.sl sz ((xs.drop off).take len)) v := by
  obtain ⟨h1, A, c, hv, hlc, h2⟩ := msl_spec hx hM hn
  subst hv
  have hlen : ((xs.drop off).take len).length = len := by rw [List.length_take, List.length_drop]; omega
  rcases Nat.eq_zero_or_pos len with h0 | h0
  · subst h0; simp only [List.take_zero]; exact .sl0 _ _ _
  cases hk : ρ k with
  | none => rw [hk] at h2; omega
  | some b =>
    rw [hk] at h2
    obtain ⟨h3, h4⟩ := h2
    have hA := h3 (by omega)
    subst hA
    obtain ⟨hf, arr, fz, h5, h6, h7, h8⟩ := row_cell hm hM hk
    have hlt := lt_of_get hM
    have hE : ¬ excl X M ρ b := by
      rintro (hX | ⟨j, o, hj, hmut, hρ⟩)
      · exact (hm.own k b hlt hk).1 hX
      · have := hm.inj j k b (lt_of_get hj) hlt hρ hk
        subst this
        rw [hM] at hj; cases hj; cases hmut
    have := rep_sl_mk (E := excl X M ρ) (w := w) (sz := sz) (xs := (xs.drop off).take len) (b := b) (o := off * sz) (c := c) (by rw [hlen]; exact hlc) hE (hm.lt hlt hk)
      (fun i x hx => hf _ x (getElem?_drop_take _ _ _ _ _ hx).1)
      (fun i x j y hx hy => by
        obtain ⟨u, g1, g2⟩ := h8 _ x j y (getElem?_drop_take _ _ _ _ _ hx).1 hy
        exact ⟨u, by rw [cell_of_cells h5, ← g1, Nat.add_mul, Nat.add_assoc], g2⟩)
    rw [hlen] at this
    exact this

def FreezeOk (X O : Nat → Prop) (w0 : World) (M : List MO) (ρ : Nat → Option Nat) (w : World) (M' : List MO) : Prop := MemOk X O w0 M' ρ w ∧ Evo M M' ρ ρ (excl X M ρ) (excl X M' ρ) w w ∧ M'.length = M.length

theorem FreezeOk.trans {M' M'' : List MO} (h : FreezeOk X O w0 M ρ w M') (k : FreezeOk X O w0 M' ρ w M'') : FreezeOk X O w0 M ρ w M'' := ⟨k.1, h.2.1.trans k.2.1, k.2.2.trans h.2.2⟩

theorem inv_mr {k : Nat} {v : Value} {M : List MO} {ρ : Nat → Option Nat} {E : Nat → Prop} {w : World} (h : RepA M ρ E w (.mr k) v) : ∃ d b, M[k]? = some (.obj d) ∧ d.isMap = true ∧ ρ k = some b ∧ v = .map (some b) := by
  cases h with | mr k d b h hd hb => exact ⟨d, b, h, hd, hb, rfl⟩
theorem inv_it {k : Nat} {v : Value} {M : List MO} {ρ : Nat → Option Nat} {E : Nat → Prop} {w : World} (h : RepA M ρ E w (.it k) v) : ∃ d b, M[k]? = some (.obj d) ∧ d.isMap = false ∧ ρ k = some b ∧ v = .pointer (some ⟨b, 0, none⟩) := by
  cases h with | it k d b h hd hb => exact ⟨d, b, h, hd, hb, rfl⟩
theorem rep_frozenM (hm : MemOk X O w0 M ρ w) {k b : Nat} {ks : List IV} {vs : List AV} {l : List IV} (hM : M[k]? = some (.obj (.map false ks vs))) (hb : ρ k = some b) (hl : ivs vs = some l) : RepI (excl X M ρ) w (.map ks l) (.map (some b)) := by
  obtain ⟨b', hb', es, clock, h1, h2, h3, h4, h5, h6⟩ := hm.obj k _ hM
  rw [hb] at hb'; cases hb'
  have hv := ivs_spec hl
  refine .map ks l b es clock ?_ h1 h2 h3 (by rw [h4, hv, List.length_map]) h5 (fun i e y he hy => ?_)
  · rintro (hX | ⟨j, o, hj, hmut, hjb⟩)
    · exact (hm.own k b (lt_of_get hM) hb).1 hX
    · have := hm.inj j k b (lt_of_get hj) (lt_of_get hM) hjb hb
      subst this
      rw [hM] at hj; cases hj; cases hmut
  · have := h6 i e (.iv y) he (by rw [hv, List.getElem?_map, hy]; rfl)
    cases this with | iv _ _ h => exact h
theorem cellF_sound (hm : MemOk X O w0 M ρ w) {x : AV} {y : IV} {M' : List MO} {v : Value} (hx : RepA M ρ (excl X M ρ) w x v) (h : cellF M x = some (y, M')) : FreezeOk X O w0 M ρ w M' ∧ RepI (excl X M' ρ) w y v := by
  have id : FreezeOk X O w0 M ρ w M := ⟨hm, Evo.refl _ _ _ _, rfl⟩
  unfold cellF at h
  split at h
  · cases h
  · cases h
  · cases h
    cases hx with | iv _ _ hx => exact ⟨id, hx⟩
  · cases h
    obtain ⟨A, rfl⟩ := inv_nilsl hx
    exact ⟨id, .sl0 _ _ _⟩
  · rename_i k off len n
    cases hr : rowAt M k n with
    | none => rw [hr] at h; cases h
    | some q =>
      obtain ⟨m, T, sz, xs⟩ := q
      rw [hr] at h
      simp only [Option.bind_some] at h
      split at h
      · cases h
        obtain ⟨hM, hn⟩ := rowAt_spec hr
        have hev := Evo.freeze (X := X) (ρ := ρ) (w := w) k m T sz xs hM
        have hm' := hm.freeze k m T sz xs hM
        refine ⟨⟨hm', hev, by simp⟩, rep_frozen hm' (hx.mono hev) (List.getElem?_set_self (lt_of_get hM)) hn⟩
      · cases h
  · rename_i k
    split at h
    · rename_i m ks vs hM
      cases hv : ivs vs with
      | none => rw [hv] at h; cases h
      | some l =>
        rw [hv] at h; cases h
        obtain ⟨d, b, h1, _, hb, rfl⟩ := inv_mr hx
        have hm' := hm.freezeM k m ks vs hM
        exact ⟨⟨hm', Evo.freezeM k m ks vs hM, by simp⟩, rep_frozenM hm' (List.getElem?_set_self (lt_of_get hM)) hb hv⟩
    · cases h
  · cases h

theorem cellsF_sound : ∀ (l : List AV) {M M' : List MO} {ys : List IV} (hm : MemOk X O w0 M ρ w) (vs : List Value) (hl : vs.length = l.length)
    (hx : ∀ (i : Nat) (x : AV) (v : Value), l[i]? = some x → vs[i]? = some v → RepA M ρ (excl X M ρ) w x v) (h : cellsF M l = some (ys, M')),
    FreezeOk X O w0 M ρ w M' ∧ ys.length = l.length ∧ ∀ (i : Nat) (y : IV) (v : Value), ys[i]? = some y → vs[i]? = some v → RepI (excl X M' ρ) w y v
  | [], M, M', ys, hm, vs, hl, hx, h => by
    simp [cellsF] at h; obtain ⟨rfl, rfl⟩ := h
    exact ⟨⟨hm, Evo.refl _ _ _ _, rfl⟩, rfl, by simp⟩
  | x :: l, M, M', ys, hm, vs, hl, hx, h => by
    cases vs with
    | nil => simp at hl
    | cons v vs =>
    simp only [cellsF] at h
    cases h1 : cellF M x with
    | none => rw [h1] at h; cases h
    | some q =>
      obtain ⟨y, M1⟩ := q
      rw [h1] at h
      simp only [Option.bind_some] at h
      cases h2 : cellsF M1 l with
      | none => rw [h2] at h; cases h
      | some q2 =>
        obtain ⟨ys', M2⟩ := q2
        rw [h2] at h
        simp only [Option.map_some, Option.some.injEq, Prod.mk.injEq] at h
        obtain ⟨rfl, rfl⟩ := h
        obtain ⟨hf, hy⟩ := cellF_sound hm (hx 0 x v rfl rfl) h1
        obtain ⟨hf2, hl2, hy2⟩ := cellsF_sound l hf.1 vs (by simpa using hl) (fun i x v h3 h4 => (hx (i + 1) x v h3 h4).mono hf.2.1) h2
        refine ⟨hf.trans hf2, by simp [hl2], fun i y' v' h3 h4 => ?_⟩
        cases i with
        | zero => simp at h3 h4; subst h3 h4; exact hy.mono hf2.2.1.stay
        | succ i => exact hy2 i y' v' (by simpa using h3) (by simpa using h4)

theorem cellF_not_tup {M M' : List MO} {x : AV} {y : IV} (h : cellF M x = some (y, M')) : ∀ vs, y ≠ .tup vs := by
  rintro vs rfl
  cases x with
  | iv x => cases x <;> simp [cellF] at h
  | msl k off len n =>
    simp only [cellF] at h
    cases hr : rowAt M k n with
    | none => rw [hr] at h; cases h
    | some q => obtain ⟨m, T, sz, xs⟩ := q; rw [hr] at h; simp only [Option.bind_some] at h; split at h <;> cases h
  | mr k =>
    simp only [cellF] at h
    split at h
    · rename_i m ks l _
      cases hv : ivs l with
      | none => rw [hv] at h; cases h
      | some l' => rw [hv] at h; cases h
    · cases h
  | _ => simp [cellF] at h

theorem toIVF_sound (hm : MemOk X O w0 M ρ w) {x : AV} {y : IV} {M' : List MO} {v : Value} (hx : RepA M ρ (excl X M ρ) w x v) (h : toIVF M x = some (y, M')) : FreezeOk X O w0 M ρ w M' ∧ RepI (excl X M' ρ) w y v ∧ ∀ vs, y ≠ .tup vs := by
  unfold toIVF at h
  split at h
  · cases h
  · rename_i x' hne
    cases h
    cases hx with | iv _ _ hx => exact ⟨⟨hm, Evo.refl _ _ _ _, rfl⟩, hx, fun vs e => hne vs (by rw [e])⟩
  · rename_i cs
    cases h1 : cellsF M cs with
    | none => rw [h1] at h; cases h
    | some q =>
      obtain ⟨ys, M1⟩ := q
      rw [h1] at h; cases h
      obtain ⟨vs, rfl, hl, hc⟩ := inv_agg hx
      obtain ⟨hf, hl2, hy⟩ := cellsF_sound cs hm vs.toList (by simpa using hl) (fun i x v h3 h4 => hc i x v h3 (by simpa using h4)) h1
      refine ⟨hf, .agg _ _ (by omega) (fun i y z h3 h4 => hy i y z h3 (by simpa using h4)), by simp⟩
  · obtain ⟨h1, h2⟩ := cellF_sound hm hx h
    exact ⟨h1, h2, cellF_not_tup h⟩

theorem putElem_spec {sz c : Nat} {x y z : IV} (h : putElem sz x c y = some z) (hx : x.fits sz = true) (hy : ∀ vs, y ≠ .tup vs) :
    z.fits sz = true ∧ c + y.cells.length ≤ sz ∧ y.cells.all IV.one = true ∧ ∀ p, z.cells[p]? = if c ≤ p ∧ p < c + y.cells.length then y.cells[p - c]? else x.cells[p]? := by
  unfold putElem at h
  split at h
  · rename_i hc
    obtain ⟨rfl, hf⟩ := hc
    cases h
    have hl := IV.fits_len hf
    have hl2 := IV.fits_len hx
    refine ⟨hf, by omega, by simp [IV.fits] at hf ⊢; exact hf.2, fun p => ?_⟩
    by_cases hp : p < y.cells.length
    · rw [if_pos (by omega), Nat.sub_zero]
    · rw [if_neg (by omega), List.getElem?_eq_none (by omega), List.getElem?_eq_none (by omega)]
  · split at h
    · rename_i cs
      split at h
      · rename_i hc
        obtain ⟨h1, h2⟩ := hc
        cases h
        have hl : cs.length = sz := IV.fits_len hx
        have hall : ∀ z ∈ cs, z.one = true := by simp [IV.fits, IV.cells] at hx; exact hx.2
        refine ⟨?_, by omega, h2, fun p => setCells_get _ _ _ h1 p⟩
        show ((setCells cs c y.cells).length == sz && (setCells cs c y.cells).all IV.one) = true
        simp only [Bool.and_eq_true, beq_iff_eq, List.all_eq_true]
        refine ⟨by rw [setCells_length _ _ _ h1]; exact hl, fun z hz => ?_⟩
        obtain ⟨i, hi⟩ := List.getElem?_of_mem hz
        rw [setCells_get _ _ _ h1] at hi
        split at hi
        · simp at h2; exact h2 z (List.mem_of_getElem? hi)
        · exact hall z (List.mem_of_getElem? hi)
      · cases h
    · cases h

theorem cellsI_one {y : IV} {v : Value} (h : RepI E w y v) (ht : ∀ vs, y ≠ .tup vs) (h1 : y.cells.all IV.one = true) : ∀ u ∈ v.cells.toList, u.oneCell' = true := by
  obtain ⟨h2, h3⟩ := rep_cellsI h ht
  intro u hu
  obtain ⟨i, hi⟩ := List.getElem?_of_mem hu
  rw [Array.getElem?_toList] at hi
  have hlt : i < y.cells.length := by rw [← h2]; exact (Array.getElem?_eq_some_iff.1 hi).1
  have hy := List.getElem?_eq_getElem hlt
  exact oneCell_of_one (h3 i _ u hy hi) (by simp at h1; exact h1 _ (List.mem_of_getElem? hy))

theorem step_writerow (hm : MemOk X O w0 M ρ w) {k b : Nat} {T : TypeId} {sz : Nat} {xs xs' : List IV} (hM : M[k]? = some (.row true T sz xs)) (hb : ρ k = some b) (hl : xs.length ≤ xs'.length)
    {w' : World} (hw : Wrote w w' b) {arr' : Array Value} {fz : Nat × Nat} (hh : w'.heap[b]? = some (.cells arr' T fz)) (hsame : ∀ arr fz', w.heap[b]? = some (.cells arr T fz') → fz = fz' ∧ arr'.size = arr.size)
    (hle : xs'.length * sz ≤ arr'.size) (hf : ∀ (i : Nat) (x : IV), xs'[i]? = some x → x.fits sz = true)
    (hc : ∀ (i : Nat) (x : IV) (j : Nat) (y : IV), xs'[i]? = some x → x.cells[j]? = some y → ∃ u, arr'[i * sz + j]? = some u ∧ RepI (excl X M ρ) w y u) :
    MemOk X O w0 (M.set k (.row true T sz xs')) ρ w' ∧ Evo M (M.set k (.row true T sz xs')) ρ ρ (excl X M ρ) (excl X (M.set k (.row true T sz xs')) ρ) w w' := by
  have hlt := lt_of_get hM
  have hev := Evo.set (X := X) k b _ (.row true T sz xs') hM hb rfl hw ⟨rfl, rfl, hl, fun arr fz' ha => ⟨arr', fz, hh, Nat.le_of_eq (hsame arr fz' ha).2.symm⟩⟩ (hm.other hlt hb)
  refine ⟨hm.set k b _ _ hM hb hw hev ⟨hf, ?_⟩, hev⟩
  rw [hb]
  obtain ⟨_, arr, fz', g1, g2, g3, g4⟩ := row_cell hm hM hb
  obtain ⟨rfl, hs⟩ := hsame arr fz' g1
  refine ⟨arr', fz, hh, fun i hi => g2 i (by omega), hle, fun i x j y hx hy => ?_⟩
  obtain ⟨u, h1, h2⟩ := hc i x j y hx hy
  exact ⟨u, h1, h2.mono hev.stay⟩

theorem idx_split {i i' j j' sz : Nat} (hj : j < sz) (hj' : j' < sz) (h : i * sz + j = i' * sz + j') : i = i' ∧ j = j' := by
  have h1 : (i * sz + j) / sz = i := by rw [Nat.mul_comm, Nat.mul_add_div (by omega), Nat.div_eq_of_lt hj, Nat.add_zero]
  have h2 : (i' * sz + j') / sz = i' := by rw [Nat.mul_comm, Nat.mul_add_div (by omega), Nat.div_eq_of_lt hj', Nat.add_zero]
  have : i = i' := by rw [← h1, ← h2, h]
  subst this
  exact ⟨rfl, by omega⟩

theorem block_le {i n sz j : Nat} (hi : i < n) (hj : j < sz) : i * sz + j < n * sz :=
  Nat.lt_of_lt_of_le (by omega : i * sz + j < i * sz + sz) (by rw [← Nat.succ_mul]; exact Nat.mul_le_mul_right _ hi)

theorem step_storerow (hm : MemOk X O w0 M ρ w) {t : TypeId} {n : Nat} (ht : tSize P t = some n) {k m i c : Nat} {T : TypeId} {sz : Nat} {xs : List IV} {x : AV} {y old z : IV} {M' : List MO} {av xv : Value}
    (ha : RepA M ρ (excl X M ρ) w (.rp k m i c) av) (hx : RepA M ρ (excl X M ρ) w x xv) (hf : toIVF M x = some (y, M')) (hM : M'[k]? = some (.row true T sz xs)) (hm' : m = xs.length) (hn : y.cells.length = n)
    (hold : xs[i]? = some old) (hz : putElem sz old c y = some z) :
    StepOk P X O w0 M ρ w .any (M'.set k (.row true T sz (xs.set i z))) ((do Instr.storeAt t av xv; pure Next.skip : Sem Next).run P w) := by
  obtain ⟨hfr, hy, hnt⟩ := toIVF_sound hm hx hf
  have ha' := ha.mono hfr.2.1
  have hmm := hfr.1
  obtain ⟨b, hb, rfl⟩ := rp_spec ha' hM hm'
  obtain ⟨hfit, arr, fz, h3, h4, h5, h6⟩ := row_cell hmm hM hb
  obtain ⟨z1, z2, z3, z4⟩ := putElem_spec hz (hfit i old hold) hnt
  obtain ⟨hc1, hc2⟩ := rep_cellsI hy hnt
  have hi := lt_of_get hold
  have hbl : i * sz + sz ≤ arr.size := Nat.le_trans (by rw [← Nat.succ_mul]; exact Nat.mul_le_mul_right _ hi) h5
  obtain ⟨w', hr, hw, arr', hh, hs, hp⟩ := run_storeCells (P := P) b (i * sz + c) xv.cells.toList 0 w arr h3 h4 (by simp; omega) (cellsI_one hy hnt z3)
  have hlen : (xs.set i z).length = xs.length := by simp
  obtain ⟨hm2, hev⟩ := step_writerow hmm hM hb (xs' := xs.set i z) (by omega) hw hh (fun arr2 fz2 h2 => by rw [h3] at h2; cases h2; exact ⟨rfl, hs⟩) (by rw [hlen]; omega)
    (fun i' x' hx' => by
      by_cases e : i' = i
      · subst e; rw [List.getElem?_set_self hi] at hx'; cases hx'; exact z1
      · rw [List.getElem?_set_ne (Ne.symm e)] at hx'; exact hfit i' x' hx')
    (fun i' x' j q hx' hq => by
      rw [hp]
      simp only [Nat.add_zero, Array.length_toList, Array.getElem?_toList, hc1]
      by_cases e : i' = i
      · subst e
        rw [List.getElem?_set_self hi] at hx'; cases hx'
        rw [z4] at hq
        split at hq
        · rename_i hin
          rw [if_pos (by omega), show i' * sz + j - (i' * sz + c) = j - c from by omega]
          have hlt : j - c < xv.cells.size := by rw [hc1]; omega
          exact ⟨_, Array.getElem?_eq_getElem hlt, hc2 _ q _ hq (Array.getElem?_eq_getElem hlt)⟩
        · rename_i hin
          rw [if_neg (by omega)]
          exact h6 i' old j q hold hq
      · rw [List.getElem?_set_ne (Ne.symm e)] at hx'
        have hj : j < sz := by have := lt_of_get hq; rw [IV.fits_len (hfit i' x' hx')] at this; exact this
        rw [if_neg ?_]
        · exact h6 i' x' j q hx' hq
        · rintro ⟨h7, h8⟩
          have hcj : i' * sz + j - i * sz < sz := by omega
          have := idx_split (i := i') (i' := i) (j := j) (j' := i' * sz + j - i * sz) hj hcj (by omega)
          exact e this.1)
  exact ⟨_, _, w', ρ, urun (run_storeVar ht (by omega) hr), .inr ⟨rfl, rfl⟩, .any _, hm2, hfr.2.1.trans hev⟩

end
end Go.Proofs.YtpjncojljamacaaGreat.AM
set_option linter.unusedVariables false
set_option linter.unusedSimpArgs false
namespace Go.Proofs.YtpjncojljamacaaGreat.AM
open Go Go.RowKit

section
variable {P : Program} {X O : Nat → Prop} {w0 : World} {M : List MO} {ρ : Nat → Option Nat} {E : Nat → Prop} {w : World}

def NotInt (P : Program) (t : TypeId) : Prop := ∃ d, P.underlying t = some d ∧ ∀ k, d ≠ .int k

theorem notInt_slc {t : TypeId} (h : tKind P t = some .slc) : NotInt P t := by obtain ⟨e, he⟩ := tKind_slc h; exact ⟨_, he, by simp⟩
theorem notInt_str {t : TypeId} (h : tKind P t = some .str) : NotInt P t := ⟨_, tKind_str h, by simp⟩

theorem notInt_match {d : TypeDesc} (h : ∀ k, d ≠ .int k) : (match d with | .int k => true | _ => false) = false := by
  cases d <;> first | rfl | exact absurd rfl (h _)

theorem run_append_room2 {ts : Array TypeId} {t t2 ty : TypeId} {e : Elem} (ht : tElem P t = some e) (h0 : ts[0]? = some t) (h1 : ts[1]? = some t2) (h2 : NotInt P t2) {A : Option Addr} {sLen cap n : Nat} {x : Value} {news : Array Value} {w' : World}
    (hlen : (Builtin.lenOf x).run P w = .ok n w) (hcells : (Builtin.firstCells e.sz n x).run P w = .ok news w) (hroom : sLen + n ≤ cap)
    (hst : match A with | some a => (storeCells (a.add (sLen * e.sz)) news.toList).run P w = .ok () w' | none => w' = w) :
    (Builtin.append_ ts ty #[.slice A sLen cap, x]).run P w = .ok (.slice A (sLen + n) cap) w' := by
  obtain ⟨h3, i, hi, hs, _⟩ := tElem_spec ht
  obtain ⟨d, hd, hne⟩ := h2
  have hm := notInt_match hne
  cases A with
  | none => simp only at hst; subst hst; simp [Builtin.append_, h0, h1, run_underlying h3, run_underlying hd, hm, run_sizeOf hi, hs, hlen, hcells, hroom]
  | some a => simp only at hst; simp [Builtin.append_, h0, h1, run_underlying h3, run_underlying hd, hm, run_sizeOf hi, hs, hlen, hcells, hroom, hst]

theorem run_append_grow2 {ts : Array TypeId} {t t2 ty : TypeId} {e : Elem} (ht : tElem P t = some e) (h0 : ts[0]? = some t) (h1 : ts[1]? = some t2) (h2 : NotInt P t2) {A : Option Addr} {sLen cap n : Nat} {x : Value} {olds news : Array Value}
    (hlen : (Builtin.lenOf x).run P w = .ok n w) (hcells : (Builtin.firstCells e.sz n x).run P w.drew = .ok news w.drew) (hold : (Builtin.firstCells e.sz sLen (.slice A sLen cap)).run P w.drew = .ok olds w.drew) (hroom : cap < sLen + n)
    (hb : (sLen + n) * e.bytes ≤ 140737488355328) :
    ∃ c, sLen + n ≤ c ∧ (Builtin.append_ ts ty #[.slice A sLen cap, x]).run P w = .ok (.slice (some ⟨w.heap.size, 0, none⟩) (sLen + n) c)
      (w.drew.alloc (.cells (olds ++ news ++ Builtin.zeroCells e.zero.cells (c - (sLen + n))) e.T)) := by
  obtain ⟨h3, i, hi, hs, hby, hz, _, _, hpos⟩ := tElem_spec ht
  obtain ⟨d, hd, hne⟩ := h2
  have hm := notInt_match hne
  refine ⟨grownCap w (sLen + n) cap e.T, grownCap_ge _ _ _ _, ?_⟩
  have hn : ¬ (sLen + n ≤ cap) := by omega
  have hfit := growslice_fits (bytes := e.bytes) hroom hb
  have h48 : ¬ (281474976710656 < Builtin.nextslicecap (sLen + n) cap * e.bytes) := by omega
  have hb0 : e.bytes ≠ 0 := by omega
  simp only [Builtin.append_, h0, h1]
  simp [run_underlying h3, run_underlying hd, hm, run_sizeOf hi, hs, hlen, hcells, hn, hold, run_typeInfo hi, hby, h48, hb0, run_zeroValue hi hz, Question.forced, newRow, grownCap]


theorem cells_append {sz : Nat} {xs ys : List IV} {olds news : List Value} {rest : Array Value} (hl1 : olds.length = xs.length * sz) (hl2 : news.length = ys.length * sz)
    (hf2 : ∀ (i : Nat) (x : IV), ys[i]? = some x → x.fits sz = true) (hf1 : ∀ (i : Nat) (x : IV), xs[i]? = some x → x.fits sz = true)
    (h1 : ∀ (i : Nat) (x : IV) (j : Nat) (y : IV), xs[i]? = some x → x.cells[j]? = some y → ∃ u, olds[i * sz + j]? = some u ∧ RepI E w y u)
    (h2 : ∀ (i : Nat) (x : IV) (j : Nat) (y : IV), ys[i]? = some x → x.cells[j]? = some y → ∃ u, news[i * sz + j]? = some u ∧ RepI E w y u) :
    ∀ (i : Nat) (x : IV) (j : Nat) (y : IV), (xs ++ ys)[i]? = some x → x.cells[j]? = some y → ∃ u, (olds.toArray ++ news.toArray ++ rest)[i * sz + j]? = some u ∧ RepI E w y u := by
  intro i x j y hx hy
  by_cases hi : i < xs.length
  · rw [List.getElem?_append_left hi] at hx
    obtain ⟨u, hu, hr⟩ := h1 i x j y hx hy
    refine ⟨u, ?_, hr⟩
    have hlt := lt_of_get hu
    rw [Array.append_assoc, Array.getElem?_append_left (by simpa using hlt)]
    simpa using hu
  · rw [List.getElem?_append_right (by omega)] at hx
    obtain ⟨u, hu, hr⟩ := h2 _ x j y hx hy
    refine ⟨u, ?_, hr⟩
    have hlt := lt_of_get hu
    have e : i * sz + j = olds.length + ((i - xs.length) * sz + j) := by
      rw [hl1, ← Nat.add_assoc, ← Nat.add_mul]
      congr 2; omega
    rw [e, Array.getElem?_append_left (by simp; omega), Array.getElem?_append_right (by simp)]
    simpa using hu

theorem fits_append {sz : Nat} {xs ys : List IV} (h1 : ∀ (i : Nat) (x : IV), xs[i]? = some x → x.fits sz = true) (h2 : ∀ (i : Nat) (x : IV), ys[i]? = some x → x.fits sz = true) :
    ∀ (i : Nat) (x : IV), (xs ++ ys)[i]? = some x → x.fits sz = true := by
  intro i x hx
  by_cases hi : i < xs.length
  · rw [List.getElem?_append_left hi] at hx; exact h1 i x hx
  · rw [List.getElem?_append_right (by omega)] at hx; exact h2 _ x hx

theorem step_append (hm : MemOk X O w0 M ρ w) {ts : Array TypeId} {t t2 ty : TypeId} {e : Elem} (ht : tElem P t = some e) (h0 : ts[0]? = some t) (h1 : ts[1]? = some t2) (h2 : NotInt P t2) {s x v : AV} {M' : List MO} {sv xv : Value}
    (hs : RepA M ρ (excl X M ρ) w s sv) (hx : RepA M ρ (excl X M ρ) w x xv) (h : appendAV M e s x = some (v, M')) :
    StepOk P X O w0 M ρ w v M' ((do pure (Next.value (← Builtin.append_ ts ty #[sv, xv])) : Sem Next).run P w) := by
  obtain ⟨h3, i, hi, his, hby, hz, hzs, hsz, hpos⟩ := tElem_spec ht
  unfold appendAV at h
  split at h
  · -- to none
    cases hys : elems M e.sz x with
    | none => rw [hys] at h; cases h
    | some ys =>
      rw [hys] at h
      simp only [Option.bind_some] at h
      split at h
      · rename_i hb
        cases h
        obtain ⟨A, rfl⟩ := inv_nilsl hs
        obtain ⟨hf, hlen, news, hl, hone, hrep, hcells⟩ := elems_sound (P := P) hm hx hys
        have hall : ∀ w', w'.heap = w.heap → (Builtin.firstCells e.sz ys.length xv).run P w' = .ok news.toArray w' := fun w' hw' => by
          have := hcells ys.length w' hw' (Nat.le_refl _)
          rwa [List.take_of_length_le (by omega)] at this
        by_cases hn : ys.length = 0
        · have : ys = [] := List.eq_nil_of_length_eq_zero hn
          subst this
          have hnews : news = [] := List.eq_nil_of_length_eq_zero (by simpa using hl)
          subst hnews
          refine step_nilrow hm e.T e.sz (A := A) ?_
          rw [vrun (run_append_room2 (P := P) (w := w) (w' := w) (A := A) (sLen := 0) (cap := 0) ht h0 h1 h2 (hlen w) (hall w rfl) (Nat.le_refl _) (by cases A <;> simp [storeCells]))]
          rfl
        · obtain ⟨c, hc, hr⟩ := run_append_grow2 (P := P) (w := w) (A := A) (sLen := 0) (cap := 0) (olds := #[]) (ty := ty) ht h0 h1 h2 (hlen w) (hall w.drew rfl) (by cases A <;> simp [Builtin.firstCells, loadCells, loadCellsFrom]) (by omega) (by simpa using hb)
          simp only [Nat.zero_add] at hr hc
          refine step_newrow hm e.T (cap := c) hc ?_ hf ?_ (w' := w.drew.alloc _) ⟨rfl, rfl, rfl, rfl⟩ (vrun hr)
          · simp only [Array.size_append, List.size_toArray, size_zeroCells, hzs, hl, Array.size_empty, List.length_nil, Nat.zero_add, ← Nat.add_mul]
            rw [show ys.length + (c - ys.length) = c from by omega]
            exact Nat.le_refl _
          · exact cells_append (xs := []) (olds := []) (by simp) hl hf (by simp) (by simp) hrep
      · cases h
  · -- to a row of the call's own
    rename_i k off len n
    cases hys : elems M e.sz x with
    | none => rw [hys] at h; cases h
    | some ys =>
      rw [hys] at h
      simp only [Option.bind_some] at h
      split at h
      · rename_i T sz xs hM
        split at h
        · rename_i hc'
          obtain ⟨rfl, rfl, rfl, rfl, rfl, hb⟩ := hc'
          cases h
          obtain ⟨g1, A, cap, rfl, hlc, g2⟩ := msl_spec hs hM rfl
          obtain ⟨hf, hlen, news, hl, hone, hrep, hcells⟩ := elems_sound (P := P) hm hx hys
          have hall : ∀ w', w'.heap = w.heap → (Builtin.firstCells e.sz ys.length xv).run P w' = .ok news.toArray w' := fun w' hw' => by
            have := hcells ys.length w' hw' (Nat.le_refl _)
            rwa [List.take_of_length_le (by omega)] at this
          have hfx := row_fits hm hM
          by_cases hn : ys.length = 0
          · -- nothing is added
            have : ys = [] := List.eq_nil_of_length_eq_zero hn
            subst this
            have hnews : news = [] := List.eq_nil_of_length_eq_zero (by simpa using hl)
            subst hnews
            have hset : M.set k (.row true e.T e.sz (xs ++ [])) = M := by
              rw [List.append_nil]
              apply List.ext_getElem?
              intro j
              by_cases hj : j = k
              · subst hj; rw [List.getElem?_set_self (lt_of_get hM), hM]
              · rw [List.getElem?_set_ne (Ne.symm hj)]
            rw [hset]
            simp only [List.length_nil, Nat.add_zero]
            have hrr := run_append_room2 (P := P) (w := w) (w' := w) (A := A) (sLen := xs.length) (cap := cap) (ty := ty) ht h0 h1 h2 (hlen w) (hall w rfl) (by simpa using hlc) (by cases A <;> simp [storeCells])
            exact StepOk.same hm (vrun hrr) hs
          · by_cases hroom : xs.length + ys.length ≤ cap
            · -- in place
              cases hk : ρ k with
              | none => rw [hk] at g2; omega
              | some b =>
                rw [hk] at g2
                obtain ⟨g3, arr, fz, g4, g5⟩ := g2
                have hA := g3 (by omega)
                subst hA
                obtain ⟨_, arr2, fz2, g6, g7, g8, g9⟩ := row_cell hm hM hk
                rw [g4] at g6; cases g6
                simp only [Nat.zero_mul, Nat.zero_add] at g5
                have hfit : xs.length * e.sz + news.length ≤ arr.size := by rw [hl, ← Nat.add_mul]; exact Nat.le_trans (Nat.mul_le_mul_right _ hroom) g5
                obtain ⟨w', hr, hw, arr', hh, hsz', hp⟩ := run_storeCells (P := P) b (xs.length * e.sz) news 0 w arr g4 g7 (by omega) hone
                have hrr := run_append_room2 (P := P) (w := w) (w' := w') (A := some ⟨b, 0 * e.sz, none⟩) (sLen := xs.length) (cap := cap) (ty := ty) ht h0 h1 h2 (hlen w) (hall w rfl) hroom (by simpa [Addr.add_lit] using hr)
                obtain ⟨hm2, hev⟩ := step_writerow hm hM hk (xs' := xs ++ ys) (by simp) hw hh (fun arr3 fz3 h3' => by rw [g4] at h3'; cases h3'; exact ⟨rfl, hsz'⟩)
                  (by rw [List.length_append, Nat.add_mul, hsz', ← hl]; exact hfit) (fits_append hfx hf)
                  (fun i x j y hx' hy => by
                    rw [hp]
                    simp only [Nat.add_zero]
                    by_cases hin : i < xs.length
                    · rw [List.getElem?_append_left hin] at hx'
                      have hj : j < e.sz := by have := lt_of_get hy; rw [IV.fits_len (hfx i x hx')] at this; exact this
                      have := block_le hin hj
                      rw [if_neg (by omega)]
                      exact g9 i x j y hx' hy
                    · rw [List.getElem?_append_right (by omega)] at hx'
                      obtain ⟨u, hu, hr'⟩ := hrep _ x j y hx' hy
                      have hlt := lt_of_get hu
                      have e1 : i * e.sz + j = xs.length * e.sz + ((i - xs.length) * e.sz + j) := by
                        rw [← Nat.add_assoc, ← Nat.add_mul]; congr 2; omega
                      rw [e1, if_pos (by omega), Nat.add_sub_cancel_left]
                      exact ⟨u, hu, hr'⟩)
                refine ⟨_, _, w', ρ, vrun hrr, .inl rfl, ?_, hm2, hev⟩
                refine .msl k 0 _ _ _ true e.T e.sz (xs ++ ys) (List.getElem?_set_self (lt_of_get hM)) (by simp) ⟨_, _, _, rfl⟩ (fun _ => ⟨by omega, _, cap, rfl, hroom, ?_⟩)
                rw [hk]
                exact ⟨fun _ => rfl, arr', fz, hh, by rw [hsz']; simpa using g5⟩
            · -- to a new block
              have holds : ∃ olds : List Value, olds.length = xs.length * e.sz ∧ (Builtin.firstCells e.sz xs.length (.slice A xs.length cap)).run P w.drew = .ok olds.toArray w.drew ∧
                  ∀ (i : Nat) (x : IV) (j : Nat) (y : IV), xs[i]? = some x → x.cells[j]? = some y → ∃ u, olds[i * e.sz + j]? = some u ∧ RepI (excl X M ρ) w y u := by
                have hxe : elems M e.sz (.msl k 0 xs.length xs.length) = some xs := by simp [elems, rowAt, hM]
                obtain ⟨_, _, olds, o1, _, o3, o4⟩ := elems_sound hm hs hxe
                refine ⟨olds, o1, ?_, o3⟩
                have := o4 xs.length w.drew rfl (Nat.le_refl _)
                rwa [List.take_of_length_le (by omega)] at this
              obtain ⟨olds, o1, o2, o3⟩ := holds
              obtain ⟨c, hc, hr⟩ := run_append_grow2 (P := P) (w := w) (A := A) (sLen := xs.length) (cap := cap) (ty := ty) ht h0 h1 h2 (hlen w) (hall w.drew rfl) o2 (by omega) hb
              have hn' : News w (w.drew.alloc (.cells (olds.toArray ++ news.toArray ++ Builtin.zeroCells e.zero.cells (c - (xs.length + ys.length))) e.T)) (.cells (olds.toArray ++ news.toArray ++ Builtin.zeroCells e.zero.cells (c - (xs.length + ys.length))) e.T) := ⟨rfl, rfl, rfl, rfl⟩
              have hev := Evo.moved (X := X) (ρ := ρ) k e.T e.sz xs (xs ++ ys) _ hM (by rw [List.length_append]; omega) hn'
              have hcl := cells_append (E := excl X M ρ) (w := w) (rest := Builtin.zeroCells e.zero.cells (c - (xs.length + ys.length))) o1 hl hf hfx o3 hrep
              have hsize : c * e.sz ≤ (olds.toArray ++ news.toArray ++ Builtin.zeroCells e.zero.cells (c - (xs.length + ys.length))).size := by
                simp only [Array.size_append, List.size_toArray, size_zeroCells, hzs, hl, o1, ← Nat.add_mul]
                rw [show xs.length + ys.length + (c - (xs.length + ys.length)) = c from by omega]
                exact Nat.le_refl _
              refine ⟨_, _, _, _, vrun hr, .inl rfl, ?_, hm.moved k e.T e.sz xs (xs ++ ys) _ hM (by rw [List.length_append]; omega) hn' ⟨fits_append hfx hf, ?_⟩, hev⟩
              · refine .msl k 0 _ _ _ true e.T e.sz (xs ++ ys) (List.getElem?_set_self (lt_of_get hM)) (by simp) ⟨_, _, _, rfl⟩ (fun _ => ⟨by omega, _, c, rfl, hc, ?_⟩)
                rw [updρ_same]
                exact ⟨fun _ => by simp, _, _, hn'.new, by simpa using hsize⟩
              · rw [updρ_same]
                refine ⟨_, _, hn'.new, unfrozen0 _, Nat.le_trans (by rw [List.length_append]; exact Nat.mul_le_mul_right _ hc) hsize, fun i x j y hx' hy => ?_⟩
                obtain ⟨u, hu, hr'⟩ := hcl i x j y hx' hy
                exact ⟨u, hu, hr'.mono hev.stay⟩
        · cases h
      · cases h
  · cases h

end
end Go.Proofs.YtpjncojljamacaaGreat.AM
set_option linter.unusedVariables false
set_option linter.unusedSimpArgs false
namespace Go.Proofs.YtpjncojljamacaaGreat.AM
open Go Go.RowKit

section
variable {P : Program} {X O : Nat → Prop} {w0 : World} {M : List MO} {ρ : Nat → Option Nat} {E : Nat → Prop} {w : World}

theorem constIVcell_sound {v : Value} {z : IV} (h : constIVcell v = some z) : RepI E w z v ∧ z.one = true := by
  cases v with
  | bool b => cases h; exact ⟨.bool _, rfl⟩
  | int k n => cases h; exact ⟨.int _ _, rfl⟩
  | string s => cases h; exact ⟨.str _, rfl⟩
  | pointer a =>
    cases a with
    | none => cases h; exact ⟨.nilp, rfl⟩
    | some a => cases h
  | slice a n c =>
    unfold constIVcell at h
    split at h <;> first | (cases h; done) | skip
    all_goals rename_i e
    all_goals cases e
    cases h; exact ⟨.sl0 _ _ _, rfl⟩
  | map r =>
    cases r with
    | none => cases h; exact ⟨.map0, rfl⟩
    | some r => cases h
  | _ => cases h

theorem mapM_cell : ∀ {l : List Value} {zs : List IV}, l.mapM constIVcell = some zs → zs.length = l.length ∧ ∀ (i : Nat) (y : IV) (u : Value), zs[i]? = some y → l[i]? = some u → RepI E w y u
  | [], zs, h => by simp at h; subst h; simp
  | v :: l, zs, h => by
    rw [List.mapM_cons] at h
    cases h1 : constIVcell v with
    | none => rw [h1] at h; cases h
    | some z =>
      rw [h1] at h
      cases h2 : l.mapM constIVcell with
      | none => rw [h2] at h; cases h
      | some zs' =>
        rw [h2] at h
        cases h
        obtain ⟨h3, h4⟩ := mapM_cell h2
        refine ⟨by simp [h3], fun i y u hy hu => ?_⟩
        cases i with
        | zero => simp at hy hu; subst hy hu; exact (constIVcell_sound h1).1
        | succ i => exact h4 i y u (by simpa using hy) (by simpa using hu)

theorem constIV_sound {v : Value} {z : IV} (h : constIV v = some z) : RepI E w z v ∧ ∀ vs, z ≠ .tup vs := by
  unfold constIV at h
  split at h
  · rename_i cs
    cases h1 : cs.toList.mapM constIVcell with
    | none => rw [h1] at h; cases h
    | some zs =>
      rw [h1] at h; cases h
      obtain ⟨h3, h4⟩ := mapM_cell (E := E) (w := w) h1
      exact ⟨.agg _ _ (by simpa using h3.symm) (fun i y u hy hu => h4 i y u hy (by simpa using hu)), by simp⟩
  · obtain ⟨h1, h2⟩ := constIVcell_sound (E := E) (w := w) h
    exact ⟨h1, not_tup_of_one h2⟩

theorem zeros_get {z : Array Value} {sz n i j : Nat} (hz : z.size = sz) (hi : i < n) (hj : j < sz) : ((Array.range (n * sz)).map fun p => z[p % z.size]!)[i * sz + j]? = z[j]? := by
  have hlt := block_le hi hj
  have hm : (i * sz + j) % sz = j := by rw [Nat.mul_comm, Nat.mul_add_mod, Nat.mod_eq_of_lt hj]
  rw [Array.getElem?_map, Array.getElem?_range, if_pos hlt]
  simp only [Option.map_some]
  rw [hz, hm, getElem!_pos z j (by omega), Array.getElem?_eq_getElem (by omega)]

theorem zeros_rep {zv : Value} {z : IV} {sz n : Nat} (hz : RepI E w z zv) (ht : ∀ vs, z ≠ .tup vs) (hf : z.fits sz = true) :
    ∀ (i : Nat) (x : IV) (j : Nat) (y : IV), (List.replicate n z)[i]? = some x → x.cells[j]? = some y → ∃ u, ((Array.range (n * sz)).map fun p => zv.cells[p % zv.cells.size]!)[i * sz + j]? = some u ∧ RepI E w y u := by
  intro i x j y hx hy
  rw [List.getElem?_replicate] at hx
  split at hx
  · rename_i hi
    cases hx
    obtain ⟨h1, h2⟩ := rep_cellsI hz ht
    have hl := IV.fits_len hf
    have hj : j < sz := by have := lt_of_get hy; omega
    rw [zeros_get (by omega) hi hj]
    have hlt : j < zv.cells.size := by omega
    exact ⟨_, Array.getElem?_eq_getElem hlt, h2 j y _ hy (Array.getElem?_eq_getElem hlt)⟩
  · cases hx

theorem fits_replicate {sz n : Nat} {z : IV} (hf : z.fits sz = true) : ∀ (i : Nat) (x : IV), (List.replicate n z)[i]? = some x → x.fits sz = true := by
  intro i x hx
  rw [List.getElem?_replicate] at hx
  split at hx
  · cases hx; exact hf
  · cases hx

theorem wrap_i64_id {x : Int} (h0 : -9223372036854775808 ≤ x) (h1 : x ≤ 9223372036854775807) : IntKind.i64.wrap x = x := by
  show (if (true && decide (x % (2 ^ 64 : Int) ≥ (2 ^ (64 - 1) : Int))) = true then x % (2 ^ 64 : Int) - (2 ^ 64 : Int) else x % (2 ^ 64 : Int)) = x
  simp only [Bool.true_and, decide_eq_true_eq, Nat.reduceSub]
  split <;> omega

theorem step_make (hm : MemOk X O w0 M ρ w) {t : TypeId} {e : Elem} (ht : tElem P t = some e) {z : IV} (hz : constIV e.zero = some z) (hf : z.fits e.sz = true) {k k' : IntKind} {n : Int} (h0 : 0 ≤ n) (hb : n * e.bytes ≤ 140737488355328) :
    StepOk P X O w0 M ρ w (.msl M.length 0 n.toNat n.toNat) (M ++ [.row true e.T e.sz (List.replicate n.toNat z)]) ((do pure (Next.value (← Instr.makeSlice t (.int k n) (.int k' n))) : Sem Next).run P w) := by
  obtain ⟨h3, i, hi, his, hby, hiz, hzs, hsz, hpos⟩ := tElem_spec ht
  obtain ⟨hz1, hz2⟩ := constIV_sound (E := excl X M ρ) (w := w) hz
  have hn1 : n ≤ n * e.bytes := by
    have : n * 1 ≤ n * (e.bytes : Int) := Int.mul_le_mul_of_nonneg_left (by omega) h0
    omega
  have hw : IntKind.i64.wrap n = n := wrap_i64_id (by omega) (by omega)
  have hbn : (e.bytes : Int) * n ≤ 140737488355328 := by rw [Int.mul_comm]; exact hb
  have hr : (Instr.makeSlice t (.int k n) (.int k' n)).run P w = .ok (.slice (some ⟨w.heap.size, 0, none⟩) n.toNat n.toNat) (w.alloc (.cells ((Array.range (n.toNat * e.sz)).map fun p => e.zero.cells[p % e.zero.cells.size]!) e.T)) := by
    have h1 : ¬ (281474976710656 < (e.bytes : Int) * n) := by omega
    have h2 : ¬ (n < 0) := by omega
    by_cases hn0 : n.toNat * e.sz = 0
    · have hn00 : n = 0 := by
        rcases Nat.mul_eq_zero.1 hn0 with h | h <;> omega
      subst hn00
      simp [Instr.makeSlice, run_underlying h3, asInt, asIntOf, run_typeInfo hi, hby, run_sizeOf hi, his, newRow, show IntKind.i64.wrap 0 = 0 from by decide, Array.range_zero']
    · simp [Instr.makeSlice, run_underlying h3, asInt, asIntOf, run_typeInfo hi, hby, hw, h1, h2, run_sizeOf hi, his, newRow, hn0, run_zeroValue hi hiz]
  have := step_newrow (P := P) hm e.T (sz := e.sz) (xs := List.replicate n.toNat z) (arr := (Array.range (n.toNat * e.sz)).map fun p => e.zero.cells[p % e.zero.cells.size]!) (cap := n.toNat) (by simp) (by simp)
    (fits_replicate hf) (zeros_rep hz1 hz2 hf) (w' := w.alloc _) (News.alloc w _) (r := (do pure (Next.value (← Instr.makeSlice t (.int k n) (.int k' n))) : Sem Next).run P w) (by rw [vrun hr, List.length_replicate])
  simpa using this

theorem fold_set (off : Nat) : ∀ (l : List Value) (k : Nat) (cs : Array Value), off + k + l.length ≤ cs.size →
    ((l.zipIdx k).foldl (fun cs (c, j) => cs.setIfInBounds (off + j) c) cs).size = cs.size ∧
    ∀ p, ((l.zipIdx k).foldl (fun cs (c, j) => cs.setIfInBounds (off + j) c) cs)[p]? = if off + k ≤ p ∧ p < off + k + l.length then l[p - (off + k)]? else cs[p]?
  | [], k, cs, h => ⟨rfl, fun p => by rw [if_neg (by simp only [List.length_nil]; omega)]; rfl⟩
  | v :: l, k, cs, h => by
    simp only [List.length_cons] at h
    obtain ⟨h1, h2⟩ := fold_set off l (k + 1) (cs.setIfInBounds (off + k) v) (by simp; omega)
    simp only [List.zipIdx_cons, List.foldl_cons]
    refine ⟨by rw [h1]; simp, fun p => ?_⟩
    rw [h2 p, List.length_cons]
    by_cases hp1 : off + (k + 1) ≤ p ∧ p < off + (k + 1) + l.length
    · rw [if_pos hp1, if_pos (by omega), show p - (off + k) = (p - (off + (k + 1))) + 1 from by omega, List.getElem?_cons_succ]
    · rw [if_neg hp1]
      by_cases hp2 : p = off + k
      · subst hp2
        rw [if_pos (by omega), Nat.sub_self, List.getElem?_cons_zero, Array.getElem?_setIfInBounds_self_of_lt (by omega)]
      · rw [if_neg (by omega), Array.getElem?_setIfInBounds_ne (by omega)]

theorem fold_set_arr (off : Nat) (vs cs : Array Value) (h : off + vs.size ≤ cs.size) :
    (vs.zipIdx.foldl (fun cs (c, j) => cs.setIfInBounds (off + j) c) cs).size = cs.size ∧
    ∀ p, (vs.zipIdx.foldl (fun cs (c, j) => cs.setIfInBounds (off + j) c) cs)[p]? = if off ≤ p ∧ p < off + vs.size then vs[p - off]? else cs[p]? := by
  have := fold_set off vs.toList 0 cs (by simpa using h)
  rw [← Array.foldl_toList, Array.toList_zipIdx]
  simpa using this

theorem fill_sound {ev : Nat → Option (Nat × Nat)} : ∀ (parts : List (Nat × AV)) (vparts : List (Nat × Value)) (cs r : List AV) (vs : Array Value), vs.size = cs.length →
    (∀ (i : Nat) (y : AV) (u : Value), cs[i]? = some y → vs[i]? = some u → RepA M ρ E w y u) →
    parts.length = vparts.length → (∀ (i : Nat) (p : Nat × AV) (q : Nat × Value), parts[i]? = some p → vparts[i]? = some q → p.1 = q.1 ∧ RepA M ρ E w p.2 q.2) →
    fillAV ev cs parts = some r → ∃ us, Instr.fill ev vs vparts = some us ∧ us.size = r.length ∧ ∀ (i : Nat) (y : AV) (u : Value), r[i]? = some y → us[i]? = some u → RepA M ρ E w y u
  | [], vp, cs, r, vs, hl, hc, hlen, hp, h => by
    cases vp with
    | nil => simp [fillAV] at h; subst h; exact ⟨vs, rfl, hl, hc⟩
    | cons => simp at hlen
  | (i, x) :: parts, vp, cs, r, vs, hl, hc, hlen, hp, h => by
    cases vp with
    | nil => simp at hlen
    | cons q vp =>
    obtain ⟨i', v⟩ := q
    obtain ⟨h1, h2⟩ := hp 0 _ _ rfl rfl
    simp only at h1 h2
    subst h1
    simp only [fillAV] at h
    cases hpl : ev i with
    | none => rw [hpl] at h; cases h
    | some os =>
      obtain ⟨off, size⟩ := os
      rw [hpl] at h
      simp only [Option.bind_some] at h
      cases hxc : x.cells with
      | none => rw [hxc] at h; cases h
      | some xs =>
        rw [hxc] at h
        simp only [Option.bind_some] at h
        split at h
        · cases h
        · rename_i hcond
          obtain ⟨g1, g2⟩ := rep_cells h2 hxc
          have hsz : xs.length = size := by omega
          have hbd : off + size ≤ cs.length := by omega
          obtain ⟨f1, f2⟩ := fold_set_arr off v.cells vs (by omega)
          obtain ⟨us, h3, h4, h5⟩ := fill_sound parts vp (setCells cs off xs) r (v.cells.zipIdx.foldl (fun cs (c, j) => cs.setIfInBounds (off + j) c) vs) (by rw [f1, setCells_length _ _ _ (by omega)]; exact hl)
            (fun p y u hy hu => by
              rw [setCells_get _ _ _ (by omega)] at hy
              rw [f2 p, g1] at hu
              split at hy
              · rename_i hin; rw [if_pos hin] at hu; exact g2 _ y u hy hu
              · rename_i hin; rw [if_neg hin] at hu; exact hc p y u hy hu)
            (by simpa using hlen) (fun i p q h6 h7 => hp (i + 1) p q h6 h7) h
          refine ⟨us, ?_, h4, h5⟩
          simp only [Instr.fill, hpl]
          rw [if_neg (by simp; omega)]
          exact h3

theorem run_places {s : Nat} : ∀ (l : List Field) (pl : List (Nat × Nat)), placesOf P l = some pl → (l.mapM (fun f => do pure (f.offset, ← sizeOf f.type) : Field → Sem (Nat × Nat))).run P w = .ok pl w
  | [], pl, h => by simp [placesOf] at h; subst h; simp
  | f :: l, pl, h => by
    simp only [placesOf] at h
    cases hi : P.info? f.type with
    | none => rw [hi] at h; cases h
    | some i =>
      rw [hi] at h
      simp only [Option.bind_some] at h
      cases hr : placesOf P l with
      | none => rw [hr] at h; cases h
      | some r =>
        rw [hr] at h; cases h
        have ih := run_places (s := s) l r hr
        simp only [List.mapM_cons, Sem.run_bind, run_sizeOf hi, Result.andThen_ok, Sem.run_pure, ih]

theorem fill_mono {p q : Nat → Option (Nat × Nat)} (h : ∀ i x, p i = some x → q i = some x) : ∀ (l : List (Nat × Value)) (c u : Array Value), Instr.fill p c l = some u → Instr.fill q c l = some u
  | [], c, u, hu => hu
  | (i, v) :: rest, c, u, hu => by
    unfold Instr.fill at hu ⊢
    cases hp : p i with
    | none => rw [hp] at hu; cases hu
    | some x =>
      obtain ⟨off, size⟩ := x
      rw [hp] at hu
      rw [h i _ hp]
      simp only at hu ⊢
      split at hu
      · cases hu
      · rename_i hc
        rw [if_neg hc]
        exact fill_mono h rest _ u hu
theorem run_build {t : TypeId} {z : Value} {pl : List (Nat × Nat)} (hz : tZero P t = some z) (hp : tPlaces P t = some pl) {parts : Array (Nat × Value)} {us : Array Value} (hf : Instr.fill (fun i => pl[i]?) z.cells parts.toList = some us) :
    (Instr.build t parts).run P w = .ok (.agg us) w := by
  unfold tZero at hz
  cases hi : P.info? t with
  | none => rw [hi] at hz; cases hz
  | some i =>
    rw [hi] at hz
    simp only [Option.bind_some] at hz
    unfold tPlaces at hp
    split at hp
    · rename_i fs hfs
      have hpl := run_places (P := P) (w := w) (s := 0) fs.toList pl hp
      have hpl2 : (fs.mapM (fun f => do pure (f.offset, ← sizeOf f.type) : Field → Sem (Nat × Nat))).run P w = .ok pl.toArray w := by
        rw [Array.mapM_eq_mapM_toList, Sem.run_map, hpl]; rfl
      simp only [Instr.build, Sem.run_bind, run_zeroValue hi hz, Result.andThen_ok, run_underlying hfs, hpl2]
      rw [show (fun i => pl.toArray[i]?) = (fun i => pl[i]?) from funext fun i => by simp, hf]
      rfl
    · rename_i n e hfs
      cases hie : P.info? e with
      | none => rw [hie] at hp; cases hp
      | some ie =>
        rw [hie] at hp
        cases hp
        simp only [Instr.build, Sem.run_bind, run_zeroValue hi hz, Result.andThen_ok, run_underlying hfs, run_sizeOf hie]
        rw [fill_mono (q := fun i => some (i * ie.size, ie.size)) (fun i x hx => by
          rw [List.getElem?_map] at hx
          by_cases hn : i < n
          · rw [List.getElem?_range hn] at hx; exact hx
          · rw [List.getElem?_eq_none (by simpa using hn)] at hx; cases hx) _ _ _ hf]
        rfl
    · cases hp


theorem partsF_sound : ∀ (l : List (Nat × AV)) {M M' : List MO} {ys : List (Nat × IV)} (hm : MemOk X O w0 M ρ w) (vs : List (Nat × Value)) (hl : vs.length = l.length)
    (hx : ∀ (i : Nat) (p : Nat × AV) (q : Nat × Value), l[i]? = some p → vs[i]? = some q → p.1 = q.1 ∧ RepA M ρ (excl X M ρ) w p.2 q.2) (h : partsF M l = some (ys, M')),
    FreezeOk X O w0 M ρ w M' ∧ ys.length = l.length ∧ ∀ (i : Nat) (p : Nat × IV) (q : Nat × Value), ys[i]? = some p → vs[i]? = some q → p.1 = q.1 ∧ RepI (excl X M' ρ) w p.2 q.2 ∧ ∀ us, p.2 ≠ .tup us
  | [], M, M', ys, hm, vs, hl, hx, h => by
    simp [partsF] at h; obtain ⟨rfl, rfl⟩ := h
    exact ⟨⟨hm, Evo.refl _ _ _ _, rfl⟩, rfl, by simp⟩
  | (n, x) :: l, M, M', ys, hm, vs, hl, hx, h => by
    cases vs with
    | nil => simp at hl
    | cons v vs =>
    simp only [partsF] at h
    cases h1 : toIVF M x with
    | none => rw [h1] at h; cases h
    | some q =>
      obtain ⟨y, M1⟩ := q
      rw [h1] at h
      simp only [Option.bind_some] at h
      cases h2 : partsF M1 l with
      | none => rw [h2] at h; cases h
      | some q2 =>
        obtain ⟨ys', M2⟩ := q2
        rw [h2] at h
        simp only [Option.map_some, Option.some.injEq, Prod.mk.injEq] at h
        obtain ⟨rfl, rfl⟩ := h
        obtain ⟨g1, g2⟩ := hx 0 (n, x) v rfl rfl
        obtain ⟨hf, hy, hnt⟩ := toIVF_sound hm g2 h1
        obtain ⟨hf2, hl2, hy2⟩ := partsF_sound l hf.1 vs (by simpa using hl) (fun i p q h3 h4 => ⟨(hx (i + 1) p q h3 h4).1, (hx (i + 1) p q h3 h4).2.mono hf.2.1⟩) h2
        refine ⟨hf.trans hf2, by simp [hl2], fun i y' v' h3 h4 => ?_⟩
        cases i with
        | zero => simp at h3 h4; subst h3 h4; exact ⟨g1, hy.mono hf2.2.1.stay, hnt⟩
        | succ i => exact hy2 i y' v' (by simpa using h3) (by simpa using h4)

theorem fillRow_sound {sz : Nat} : ∀ (ps : List (Nat × IV)) (vps : List (Nat × Value)) (xs r : List IV) (vs : Array Value), vs.size = xs.length * sz → (∀ (i : Nat) (x : IV), xs[i]? = some x → x.fits sz = true) →
    (∀ (i : Nat) (x : IV) (j : Nat) (y : IV), xs[i]? = some x → x.cells[j]? = some y → ∃ u, vs[i * sz + j]? = some u ∧ RepI E w y u) → ps.length = vps.length →
    (∀ (i : Nat) (p : Nat × IV) (q : Nat × Value), ps[i]? = some p → vps[i]? = some q → p.1 = q.1 ∧ RepI E w p.2 q.2 ∧ ∀ us, p.2 ≠ .tup us) → (∀ p ∈ ps, p.2.fits sz = true) → fillRow xs ps = some r →
    ∃ us, Instr.fill (fun i => some (i * sz, sz)) vs vps = some us ∧ us.size = vs.size ∧ r.length = xs.length ∧ (∀ (i : Nat) (x : IV), r[i]? = some x → x.fits sz = true) ∧
      ∀ (i : Nat) (x : IV) (j : Nat) (y : IV), r[i]? = some x → x.cells[j]? = some y → ∃ u, us[i * sz + j]? = some u ∧ RepI E w y u
  | [], vp, xs, r, vs, hs, hf, hc, hl, hp, hpf, h => by
    cases vp with
    | nil => simp [fillRow] at h; subst h; exact ⟨vs, rfl, rfl, rfl, hf, hc⟩
    | cons => simp at hl
  | (i, v) :: ps, vp, xs, r, vs, hs, hf, hc, hl, hp, hpf, h => by
    cases vp with
    | nil => simp at hl
    | cons q vp =>
    obtain ⟨i', u⟩ := q
    obtain ⟨h1, h2, h3⟩ := hp 0 _ _ rfl rfl
    simp only at h1 h2 h3
    subst h1
    simp only [fillRow] at h
    split at h
    · rename_i hi
      have hvf : v.fits sz = true := hpf (i, v) (by simp)
      obtain ⟨g1, g2⟩ := rep_cellsI h2 h3
      rw [IV.fits_len hvf] at g1
      have hbl : i * sz + sz ≤ vs.size := by rw [hs, ← Nat.succ_mul]; exact Nat.mul_le_mul_right _ hi
      obtain ⟨f1, f2⟩ := fold_set_arr (i * sz) u.cells vs (by omega)
      have hfits' : ∀ (i' : Nat) (x : IV), (xs.set i v)[i']? = some x → x.fits sz = true := fun i' x hx => by
        by_cases e : i' = i
        · subst e; rw [List.getElem?_set_self hi] at hx; cases hx; exact hvf
        · rw [List.getElem?_set_ne (Ne.symm e)] at hx; exact hf i' x hx
      obtain ⟨us, k1, k2, k3, k4, k5⟩ := fillRow_sound ps vp (xs.set i v) r _ (by rw [f1]; simpa using hs) hfits'
        (fun i' x j y hx hy => by
          have hj : j < sz := by have := lt_of_get hy; rw [IV.fits_len (hfits' i' x hx)] at this; exact this
          rw [f2, g1]
          by_cases e : i' = i
          · subst e
            rw [List.getElem?_set_self hi] at hx; cases hx
            rw [if_pos (by omega), Nat.add_sub_cancel_left]
            have hlt : j < u.cells.size := by omega
            exact ⟨_, Array.getElem?_eq_getElem hlt, g2 j y _ hy (Array.getElem?_eq_getElem hlt)⟩
          · rw [List.getElem?_set_ne (Ne.symm e)] at hx
            rw [if_neg ?_]
            · exact hc i' x j y hx hy
            · rintro ⟨h7, h8⟩
              have := idx_split (i := i') (i' := i) (j := j) (j' := i' * sz + j - i * sz) hj (by omega) (by omega)
              exact e this.1)
        (by simpa using hl) (fun i p q h6 h7 => hp (i + 1) p q h6 h7) (fun p hp' => hpf p (by simp [hp'])) h
      refine ⟨us, ?_, by rw [k2, f1], by simpa using k3, k4, k5⟩
      simp only [Instr.fill]
      rw [if_neg (by simp; omega)]
      exact k1
    · cases h

theorem step_buildSlice (hm : MemOk X O w0 M ρ w) {t : TypeId} {e : Elem} (ht : tElem P t = some e) {z : IV} (hz : constIV e.zero = some z) {len : Nat} (hle : len * e.sz ≤ 16777216) (hf : z.fits e.sz = true)
    {ps : List (Nat × AV)} {vps : Array (Nat × Value)} (hl : vps.size = ps.length) (hps : ∀ (i : Nat) (p : Nat × AV) (q : Nat × Value), ps[i]? = some p → vps[i]? = some q → p.1 = q.1 ∧ RepA M ρ (excl X M ρ) w p.2 q.2)
    {ys : List (Nat × IV)} {M' : List MO} (hp : partsF M ps = some (ys, M')) (hyf : ys.all (fun p => p.2.fits e.sz) = true) {xs : List IV} (hx : fillRow (List.replicate len z) ys = some xs) :
    StepOk P X O w0 M ρ w (.msl M'.length 0 len len) (M' ++ [.row true e.T e.sz xs]) ((do pure (Next.value (← Instr.buildSlice t len vps)) : Sem Next).run P w) := by
  obtain ⟨h3, i, hi, his, hby, hiz, hzs, hsz, hpos⟩ := tElem_spec ht
  obtain ⟨hfr, hyl, hy⟩ := partsF_sound ps hm vps.toList (by simpa using hl) (fun i p q h1 h2 => hps i p q h1 (by simpa using h2)) hp
  obtain ⟨hz1, hz2⟩ := constIV_sound (E := excl X M' ρ) (w := w) hz
  obtain ⟨us, k1, k2, k3, k4, k5⟩ := fillRow_sound (E := excl X M' ρ) (w := w) (sz := e.sz) ys vps.toList (List.replicate len z) xs ((Array.range (len * e.sz)).map fun p => e.zero.cells[p % e.zero.cells.size]!) (by simp)
    (fits_replicate hf) (zeros_rep hz1 hz2 hf) (by simp [hyl, hl]) hy (fun p hp' => by simp at hyf; exact hyf p.1 p.2 hp') hx
  simp only [List.length_replicate] at k3
  have hr : (Instr.buildSlice t len vps).run P w = .ok (.slice (some ⟨w.heap.size, 0, none⟩) len len) (w.alloc (.cells us e.T)) := by
    have h1 : ¬ (16777216 < len * e.sz) := by omega
    by_cases hn0 : len * e.sz = 0
    · rw [hn0] at k1
      simp [Instr.buildSlice, run_underlying h3, run_sizeOf hi, his, hn0, newRow, Array.range_zero'] at k1 ⊢
      simp [k1]
    · simp [Instr.buildSlice, run_underlying h3, run_sizeOf hi, his, h1, hn0, run_zeroValue hi hiz, k1, newRow]
  subst k3
  obtain ⟨nx, u, w', ρ', a1, a2, a3, a4, a5⟩ := step_newrow (P := P) hfr.1 e.T (cap := xs.length) (Nat.le_refl _) (by rw [k2]; simp) k4 k5 (w' := w.alloc _) (News.alloc w _) (vrun hr)
  exact ⟨nx, u, w', ρ', a1, a2, a3, a4, hfr.2.1.trans a5⟩

theorem step_copy (hm : MemOk X O w0 M ρ w) {ts : Array TypeId} {t ty : TypeId} {e : Elem} (ht : tElem P t = some e) (h0 : ts[0]? = some t) {k off len n : Nat} {xs ys : List IV} {x : AV} {dv xv : Value}
    (hd : RepA M ρ (excl X M ρ) w (.msl k off len n) dv) (hx : RepA M ρ (excl X M ρ) w x xv) (hM : M[k]? = some (.row true e.T e.sz xs)) (hn : n = xs.length) (hle : off + len ≤ n) (hys : elems M e.sz x = some ys) :
    StepOk P X O w0 M ρ w (.iv (.int .i64 (min ys.length len : Nat))) (M.set k (.row true e.T e.sz (xs.take off ++ ys.take (min ys.length len) ++ xs.drop (off + min ys.length len))))
      ((do pure (Next.value (← Builtin.copy_ ts ty #[dv, xv])) : Sem Next).run P w) := by
  obtain ⟨h3, i, hi, his, hby, hz, hzs, hsz, hpos⟩ := tElem_spec ht
  obtain ⟨g1, A, c, rfl, hlc, g2⟩ := msl_spec hd hM hn
  obtain ⟨hf, hlen, news, hl, hone, hrep, hcells⟩ := elems_sound (P := P) hm hx hys
  have hfx := row_fits hm hM
  generalize hq : min ys.length len = q
  have hqy : q ≤ ys.length := by omega
  have hql : q ≤ len := by omega
  have hc := hcells q w rfl hqy
  have hnewxs : (xs.take off ++ ys.take q ++ xs.drop (off + q)).length = xs.length := by simp [List.length_take, List.length_drop]; omega
  have hget : ∀ p, (xs.take off ++ ys.take q ++ xs.drop (off + q))[p]? = if off ≤ p ∧ p < off + q then ys[p - off]? else xs[p]? := by
    intro p
    have hqlen : (ys.take q).length = q := by simp [List.length_take]; omega
    have := setCells_get xs off (ys.take q) (by omega) p
    rw [hqlen] at this
    by_cases h1 : p < off
    · rw [if_neg (by omega), List.append_assoc, List.getElem?_append_left (by simp [List.length_take]; omega), List.getElem?_take_of_lt h1]
    · by_cases h2 : p < off + q
      · rw [if_pos (by omega), List.append_assoc, List.getElem?_append_right (by simp [List.length_take]; omega)]
        have e1 : (xs.take off).length = off := by simp [List.length_take]; omega
        rw [e1, List.getElem?_append_left (by omega), List.getElem?_take_of_lt (by omega)]
      · rw [if_neg (by omega), List.getElem?_append_right (by simp [List.length_take]; omega)]
        have e1 : (xs.take off ++ ys.take q).length = off + q := by simp [List.length_take]; omega
        rw [e1, List.getElem?_drop, show off + q + (p - (off + q)) = p from by omega]
  have hfn : ∀ (i : Nat) (x : IV), (xs.take off ++ ys.take q ++ xs.drop (off + q))[i]? = some x → x.fits e.sz = true := fun i x hx' => by
    rw [hget] at hx'
    split at hx'
    · exact hf _ x hx'
    · exact hfx i x hx'
  by_cases hq0 : q = 0
  · subst hq0
    have hset : M.set k (.row true e.T e.sz (xs.take off ++ ys.take 0 ++ xs.drop (off + 0))) = M := by
      rw [List.take_zero, List.append_nil, Nat.add_zero, List.take_append_drop]
      apply List.ext_getElem?
      intro j
      by_cases hj : j = k
      · subst hj; rw [List.getElem?_set_self (lt_of_get hM), hM]
      · rw [List.getElem?_set_ne (Ne.symm hj)]
    rw [hset]
    refine StepOk.same hm (u := .int .i64 0) (vrun ?_) (.iv _ _ (.int _ _))
    have hmin : Nat.min ys.length len = 0 := hq
    simp only [Nat.zero_mul, List.take_zero] at hc
    cases A <;> simp [Builtin.copy_, h0, run_underlying h3, hlen, run_sizeOf hi, his, hmin, hc, goInt, storeCells]
  · cases hk : ρ k with
    | none => rw [hk] at g2; omega
    | some b =>
      rw [hk] at g2
      obtain ⟨g3, arr, fz, g4, g5⟩ := g2
      have hA := g3 (by omega)
      subst hA
      obtain ⟨_, arr2, fz2, g6, g7, g8, g9⟩ := row_cell hm hM hk
      rw [g4] at g6; cases g6
      have hqs : q * e.sz ≤ news.length := by rw [hl]; exact Nat.mul_le_mul_right _ hqy
      have htl : (news.take (q * e.sz)).length = q * e.sz := by rw [List.length_take]; omega
      have hbd : off * e.sz + q * e.sz ≤ arr.size := by
        rw [← Nat.add_mul]; exact Nat.le_trans (Nat.mul_le_mul_right _ (by omega)) g5
      obtain ⟨w', hr, hw, arr', hh, hsz', hp⟩ := run_storeCells (P := P) b (off * e.sz) (news.take (q * e.sz)) 0 w arr g4 g7 (by omega) (fun u hu => hone u (List.mem_of_mem_take hu))
      obtain ⟨hm2, hev⟩ := step_writerow hm hM hk (xs' := xs.take off ++ ys.take q ++ xs.drop (off + q)) (by omega) hw hh (fun arr3 fz3 h3' => by rw [g4] at h3'; cases h3'; exact ⟨rfl, hsz'⟩)
        (by rw [hnewxs, hsz']; exact g8) hfn
        (fun i x j y hx' hy => by
          have hj : j < e.sz := by have := lt_of_get hy; rw [IV.fits_len (hfn i x hx')] at this; exact this
          rw [hp, htl]
          simp only [Nat.add_zero]
          rw [hget] at hx'
          split at hx'
          · rename_i hin
            obtain ⟨u, hu, hr'⟩ := hrep _ x j y hx' hy
            have e1 : i * e.sz + j = off * e.sz + ((i - off) * e.sz + j) := by
              rw [← Nat.add_assoc, ← Nat.add_mul]; congr 2; omega
            have hlt2 := block_le (i := i - off) (n := q) (by omega) hj
            rw [e1, if_pos (by omega), Nat.add_sub_cancel_left, List.getElem?_take_of_lt hlt2]
            exact ⟨u, hu, hr'⟩
          · rename_i hin
            rw [if_neg ?_]
            · exact g9 i x j y hx' hy
            · rintro ⟨h7, h8⟩
              have hi1 : off ≤ i := by
                rcases Nat.lt_or_ge i off with h | h
                · have := block_le h hj; omega
                · exact h
              have hi2 : i < off + q := by
                rcases Nat.lt_or_ge i (off + q) with h | h
                · exact h
                · have : (off + q) * e.sz ≤ i * e.sz := Nat.mul_le_mul_right _ h
                  rw [Nat.add_mul] at this; omega
              exact hin ⟨hi1, hi2⟩)
      refine ⟨_, _, w', ρ, vrun (u := .int .i64 q) (w' := w') ?_, .inl rfl, .iv _ _ (.int _ _), hm2, hev⟩
      have hmin : Nat.min ys.length len = q := hq
      simp [Builtin.copy_, h0, run_underlying h3, hlen, run_sizeOf hi, his, hmin, hc, goInt, hr]

theorem step_clear (hm : MemOk X O w0 M ρ w) {ts : Array TypeId} {t ty : TypeId} {e : Elem} (ht : tElem P t = some e) (h0 : ts[0]? = some t) {z : IV} (hz0 : constIV e.zero = some z) (hfz : z.fits e.sz = true) {k off len n : Nat} {xs : List IV} {dv : Value}
    (hd : RepA M ρ (excl X M ρ) w (.msl k off len n) dv) (hM : M[k]? = some (.row true e.T e.sz xs)) (hn : n = xs.length) (hle : off + len ≤ n) :
    StepOk P X O w0 M ρ w (.iv (.tup [])) (M.set k (.row true e.T e.sz (xs.take off ++ List.replicate len z ++ xs.drop (off + len))))
      ((do pure (Next.value (← Builtin.clear_ ts ty #[dv])) : Sem Next).run P w) := by
  obtain ⟨h3, i, hi, his, hby, hz, hzs, hsz, hpos⟩ := tElem_spec ht
  obtain ⟨g1, A, c, rfl, hlc, g2⟩ := msl_spec hd hM hn
  obtain ⟨hz1, hz2⟩ := constIV_sound (E := excl X M ρ) (w := w) hz0
  obtain ⟨ys, hys⟩ : ∃ ys, ys = List.replicate len z := ⟨_, rfl⟩
  have hyl : ys.length = len := by rw [hys, List.length_replicate]
  obtain ⟨news, hnews⟩ : ∃ news : List Value, news = ((Array.range (len * e.sz)).map fun p => e.zero.cells[p % e.zero.cells.size]!).toList := ⟨_, rfl⟩
  have hl : news.length = ys.length * e.sz := by rw [hnews, hyl]; simp
  have hf : ∀ (i : Nat) (x : IV), ys[i]? = some x → x.fits e.sz = true := by rw [hys]; exact fits_replicate hfz
  have hrep : ∀ (i : Nat) (x : IV) (j : Nat) (y : IV), ys[i]? = some x → x.cells[j]? = some y → ∃ u, news[i * e.sz + j]? = some u ∧ RepI (excl X M ρ) w y u := by
    intro i x j y h1 h2
    rw [hys] at h1
    obtain ⟨u, h3, h4⟩ := zeros_rep hz1 hz2 hfz i x j y h1 h2
    exact ⟨u, by rw [hnews, Array.getElem?_toList]; exact h3, h4⟩
  have hone : ∀ u ∈ news, u.oneCell' = true := by
    intro u hu
    obtain ⟨p, hp⟩ := List.getElem?_of_mem hu
    have hpl := lt_of_get hp
    rw [hl, hyl] at hpl
    have hdm : p = p / e.sz * e.sz + p % e.sz := by rw [Nat.mul_comm]; exact (Nat.div_add_mod p e.sz).symm
    have hpd : p / e.sz < len := Nat.div_lt_of_lt_mul (by rw [Nat.mul_comm]; exact hpl)
    have hpm : p % e.sz < e.sz := Nat.mod_lt _ hsz
    have hzl := IV.fits_len hfz
    obtain ⟨u', h3, h4⟩ := hrep (p / e.sz) z (p % e.sz) (z.cells[p % e.sz]'(by omega)) (by rw [hys, List.getElem?_replicate, if_pos hpd]) (List.getElem?_eq_getElem (by omega))
    rw [← hdm, hp] at h3
    cases h3
    exact oneCell_of_one h4 (IV.fits_one hfz (List.getElem?_eq_getElem (by omega)))
  rw [← hys]
  have hfx := row_fits hm hM
  obtain ⟨q, hq⟩ : ∃ q, q = len := ⟨_, rfl⟩
  have hyt : ys = ys.take q := by rw [List.take_of_length_le (by omega)]
  rw [hyt, ← hq]
  have hqy : q ≤ ys.length := by omega
  have hql : q ≤ len := by omega
  have hnewxs : (xs.take off ++ ys.take q ++ xs.drop (off + q)).length = xs.length := by simp [List.length_take, List.length_drop]; omega
  have hget : ∀ p, (xs.take off ++ ys.take q ++ xs.drop (off + q))[p]? = if off ≤ p ∧ p < off + q then ys[p - off]? else xs[p]? := by
    intro p
    have hqlen : (ys.take q).length = q := by simp [List.length_take]; omega
    have := setCells_get xs off (ys.take q) (by omega) p
    rw [hqlen] at this
    by_cases h1 : p < off
    · rw [if_neg (by omega), List.append_assoc, List.getElem?_append_left (by simp [List.length_take]; omega), List.getElem?_take_of_lt h1]
    · by_cases h2 : p < off + q
      · rw [if_pos (by omega), List.append_assoc, List.getElem?_append_right (by simp [List.length_take]; omega)]
        have e1 : (xs.take off).length = off := by simp [List.length_take]; omega
        rw [e1, List.getElem?_append_left (by omega), List.getElem?_take_of_lt (by omega)]
      · rw [if_neg (by omega), List.getElem?_append_right (by simp [List.length_take]; omega)]
        have e1 : (xs.take off ++ ys.take q).length = off + q := by simp [List.length_take]; omega
        rw [e1, List.getElem?_drop, show off + q + (p - (off + q)) = p from by omega]
  have hfn : ∀ (i : Nat) (x : IV), (xs.take off ++ ys.take q ++ xs.drop (off + q))[i]? = some x → x.fits e.sz = true := fun i x hx' => by
    rw [hget] at hx'
    split at hx'
    · exact hf _ x hx'
    · exact hfx i x hx'
  by_cases hq0 : q = 0
  · subst hq0
    have hset : M.set k (.row true e.T e.sz (xs.take off ++ ys.take 0 ++ xs.drop (off + 0))) = M := by
      rw [List.take_zero, List.append_nil, Nat.add_zero, List.take_append_drop]
      apply List.ext_getElem?
      intro j
      by_cases hj : j = k
      · subst hj; rw [List.getElem?_set_self (lt_of_get hM), hM]
      · rw [List.getElem?_set_ne (Ne.symm hj)]
    rw [hset]
    subst hq
    refine StepOk.same hm (u := .tuple #[]) (vrun ?_) (.iv _ _ (.tup [] #[] rfl (by simp)))
    cases A <;> simp [Builtin.clear_, h0, run_underlying h3]
  · cases hk : ρ k with
    | none => rw [hk] at g2; omega
    | some b =>
      rw [hk] at g2
      obtain ⟨g3, arr, fz, g4, g5⟩ := g2
      have hA := g3 (by omega)
      subst hA
      obtain ⟨_, arr2, fz2, g6, g7, g8, g9⟩ := row_cell hm hM hk
      rw [g4] at g6; cases g6
      have hqs : q * e.sz ≤ news.length := by rw [hl]; exact Nat.mul_le_mul_right _ hqy
      have htl : (news.take (q * e.sz)).length = q * e.sz := by rw [List.length_take]; omega
      have hbd : off * e.sz + q * e.sz ≤ arr.size := by
        rw [← Nat.add_mul]; exact Nat.le_trans (Nat.mul_le_mul_right _ (by omega)) g5
      obtain ⟨w', hr, hw, arr', hh, hsz', hp⟩ := run_storeCells (P := P) b (off * e.sz) (news.take (q * e.sz)) 0 w arr g4 g7 (by omega) (fun u hu => hone u (List.mem_of_mem_take hu))
      obtain ⟨hm2, hev⟩ := step_writerow hm hM hk (xs' := xs.take off ++ ys.take q ++ xs.drop (off + q)) (by omega) hw hh (fun arr3 fz3 h3' => by rw [g4] at h3'; cases h3'; exact ⟨rfl, hsz'⟩)
        (by rw [hnewxs, hsz']; exact g8) hfn
        (fun i x j y hx' hy => by
          have hj : j < e.sz := by have := lt_of_get hy; rw [IV.fits_len (hfn i x hx')] at this; exact this
          rw [hp, htl]
          simp only [Nat.add_zero]
          rw [hget] at hx'
          split at hx'
          · rename_i hin
            obtain ⟨u, hu, hr'⟩ := hrep _ x j y hx' hy
            have e1 : i * e.sz + j = off * e.sz + ((i - off) * e.sz + j) := by
              rw [← Nat.add_assoc, ← Nat.add_mul]; congr 2; omega
            have hlt2 := block_le (i := i - off) (n := q) (by omega) hj
            rw [e1, if_pos (by omega), Nat.add_sub_cancel_left, List.getElem?_take_of_lt hlt2]
            exact ⟨u, hu, hr'⟩
          · rename_i hin
            rw [if_neg ?_]
            · exact g9 i x j y hx' hy
            · rintro ⟨h7, h8⟩
              have hi1 : off ≤ i := by
                rcases Nat.lt_or_ge i off with h | h
                · have := block_le h hj; omega
                · exact h
              have hi2 : i < off + q := by
                rcases Nat.lt_or_ge i (off + q) with h | h
                · exact h
                · have : (off + q) * e.sz ≤ i * e.sz := Nat.mul_le_mul_right _ h
                  rw [Nat.add_mul] at this; omega
              exact hin ⟨hi1, hi2⟩)
      have hzc : (Builtin.zeroCells e.zero.cells len).toList = news.take (q * e.sz) := by
        unfold Builtin.zeroCells
        rw [List.take_of_length_le (by rw [hl, hyl, hq]; exact Nat.le_refl _), hnews, hzs]
      have hzq : (Builtin.zeroCells e.zero.cells q).toList = news.take (q * e.sz) := by rw [← hzc, hq]
      refine ⟨_, _, w', ρ, vrun (u := .tuple #[]) (w' := w') ?_, .inl rfl, .iv _ _ (.tup [] #[] rfl (by simp)), hm2, hev⟩
      obtain ⟨len', rfl⟩ : ∃ len', len = len' + 1 := ⟨len - 1, by omega⟩
      simp [Builtin.clear_, h0, run_underlying h3, run_zeroValue hi hz, hzc, hzq, hr]

theorem bytesOf?_spec : ∀ {ys : List IV} {l : List UInt8}, bytesOf? ys = some l → ∃ ns : List Int, ys = ns.map (IV.int .u8) ∧ l = ns.map fun n => UInt8.ofNat n.toNat
  | [], l, h => by simp [bytesOf?] at h; subst h; exact ⟨[], rfl, rfl⟩
  | y :: ys, l, h => by
    have hy : ∃ n, y = .int .u8 n := by
      cases y with
      | int k n => cases k <;> first | exact ⟨n, rfl⟩ | simp [bytesOf?] at h
      | _ => simp [bytesOf?] at h
    obtain ⟨n, rfl⟩ := hy
    simp only [bytesOf?] at h
    cases h1 : bytesOf? ys with
    | none => rw [h1] at h; cases h
    | some l' =>
      rw [h1] at h; cases h
      obtain ⟨ns, rfl, rfl⟩ := bytesOf?_spec h1
      exact ⟨n :: ns, rfl, rfl⟩

theorem push_fold (ns : List Int) : ∀ s : ByteArray, ns.foldl (fun r n => r.push (UInt8.ofNat n.toNat)) s = ⟨s.data ++ (ns.map fun n => UInt8.ofNat n.toNat).toArray⟩ := by
  induction ns with
  | nil => intro s; simp
  | cons n ns ih =>
    intro s
    rw [List.foldl_cons, ih]
    congr 1
    simp [ByteArray.push]

theorem elems_slc {sz : Nat} {x : AV} {ys : List IV} {u : Value} (hx : RepA M ρ E w x u) (h : elems M sz x = some ys) (hns : ∀ s, x ≠ .iv (.str s)) : ∃ A c, u = .slice A ys.length c := by
  cases x with
  | iv y =>
    cases y with
    | sl sz' xs =>
      simp only [elems] at h
      split at h
      · cases h; cases hx with | iv _ _ hx => obtain ⟨A, c, hv, _⟩ := inv_rep_sl hx; exact ⟨A, c, hv⟩
      · cases h
    | str s => exact absurd rfl (hns s)
    | _ => simp [elems] at h
  | nilsl => simp [elems] at h; subst h; obtain ⟨A, hv⟩ := inv_nilsl hx; exact ⟨A, 0, hv⟩
  | msl k off len n =>
    simp only [elems] at h
    cases hr : rowAt M k n with
    | none => rw [hr] at h; cases h
    | some q =>
      obtain ⟨m, T, sz', xs⟩ := q
      rw [hr] at h
      simp only [Option.bind_some] at h
      split at h
      · cases h
        obtain ⟨hM, hn⟩ := rowAt_spec hr
        obtain ⟨g1, A, c, hv, hlc, g2⟩ := msl_spec hx hM hn
        exact ⟨A, c, by rw [hv, List.length_take, List.length_drop, Nat.min_eq_left (by omega)]⟩
      · cases h
  | _ => simp [elems] at h

theorem strOf_sound (hm : MemOk X O w0 M ρ w) {src dst : TypeId} {x : AV} {c : Cls} {v : AV} {M' : List MO} {u : Value} (hx : RepA M ρ (excl X M ρ) w x u) (h : strOf P src dst x M = some (c, v, M')) :
    c = .r ∧ M' = M ∧ ∃ z, (convert src dst u).run P w = .ok z w ∧ RepA M ρ (excl X M ρ) w v z := by
  unfold strOf at h
  split at h
  · rename_i e hd he
    obtain ⟨h3, i, hi, his, hby, hiz, hzs, hsz, hpos⟩ := tElem_spec he
    by_cases hkk : isU8 P e.T = true ∧ x.isStr = false
    · rw [if_pos hkk] at h
      obtain ⟨hk, hns⟩ := hkk
      have hk : tKind P e.T = some (.int .u8) := by
        unfold isU8 at hk
        split at hk <;> first | assumption | cases hk
      have hns : ∀ s, x ≠ .iv (.str s) := by rintro s rfl; simp [AV.isStr] at hns
      · cases hys : elems M 1 x with
        | none => rw [hys] at h; cases h
        | some ys =>
          rw [hys] at h
          simp only [Option.bind_some] at h
          cases hb : bytesOf? ys with
          | none => rw [hb] at h; cases h
          | some l =>
            rw [hb] at h; cases h
            obtain ⟨ns, rfl, rfl⟩ := bytesOf?_spec hb
            obtain ⟨A, cc, rfl⟩ := elems_slc hx hys hns
            obtain ⟨hf, hlen, news, hl, hone, hrep, hcells⟩ := elems_sound (P := P) hm hx hys
            refine ⟨rfl, rfl, _, ?_, .iv _ _ (.str _)⟩
            rw [run_convert_bytes_string w src dst e.T A _ cc h3 (tKind_int hk) (tKind_str hd)]
            have hc := hcells (ns.map (IV.int .u8)).length w rfl (Nat.le_refl _)
            rw [List.take_of_length_le (by omega)] at hc
            have hnews : news = ns.map (Value.int .u8) := by
              apply List.ext_getElem?
              intro p
              by_cases hp : p < ns.length
              · obtain ⟨u, hu, hr⟩ := hrep p (.int .u8 ns[p]) 0 (.int .u8 ns[p]) (by simp [hp]) (by simp [IV.cells])
                simp only [Nat.mul_one, Nat.add_zero] at hu
                cases hr
                rw [hu]; simp [hp]
              · rw [List.getElem?_eq_none (by simp at hl; omega), List.getElem?_eq_none (by simp; omega)]
            subst hnews
            cases A with
            | none =>
              simp [Builtin.firstCells] at hc
              subst hc
              rfl
            | some a =>
              rw [run_bytesToString w a _ cc ns (by simpa [Builtin.firstCells] using hc), push_fold]
              simp
    · rw [if_neg hkk] at h; cases h
  · cases h

end
end Go.Proofs.YtpjncojljamacaaGreat.AM
