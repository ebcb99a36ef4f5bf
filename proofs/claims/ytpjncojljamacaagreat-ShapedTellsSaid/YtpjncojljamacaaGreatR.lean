
/- What comes in by a row's reading, as values of the machine AM. No condition. -/
import Derived.Test.YtpjncojljamacaaGreatAC
import Derived.WalkKit
import Derived.ProofKit
import Derived.OpenShut
import Derived.ShutString
import Derived.ChangeOld
import Derived.Below
import Derived.Deep.Grids
set_option linter.unusedVariables false
set_option linter.unusedSimpArgs false
namespace Go.Proofs.YtpjncojljamacaaGreat.AM
open Go Go.ChangeShapes Go.WideShapes Go.ChangeAt Go.RowKit

section
variable {H : Type} {enc : TypeId × Value → H} {P : Program} {w : World} {held : Bool} {t e : TypeId} {v : Value} {d : DataW H} {ps : List MemPlace}
def Nob : Nat → Prop := fun _ => False

theorem cell_spot {a : Addr} {u : Value} (h : w.cell? a = some u) : a.spot = none ∧ a.block < w.heap.size := by
  unfold World.cell? at h
  split at h
  · rename_i hb
    refine ⟨?_, (Array.getElem?_eq_some_iff.1 hb).1⟩
    split at h
    · cases h
    · rename_i hs; cases hsp : a.spot with
      | none => rfl
      | some x => rw [hsp] at hs; simp at hs
  · cases h

theorem addr_add (b o i : Nat) : (Addr.mk b o none).add i = ⟨b, o + i, none⟩ := by
  by_cases h : i = 0
  · subst h; simp [Addr.add]
  · simp [Addr.add, h]
theorem rep_row {α : Type} (f : α → IV) (g : α → Value) (hfg : ∀ x, RepI Nob w (f x) (g x)) (hcl : ∀ x, (f x).cells = [f x]) (hone : ∀ x, (f x).one = true) (L : List α) (a : Addr) (cap : Nat) (hc : L.length ≤ cap) (hcell : ∀ (i : Nat) (x : α), L[i]? = some x → w.cell? (a.add i) = some (g x)) :
    RepI Nob w (.sl 1 (L.map f)) (.slice (some a) L.length cap) := by
  cases L with
  | nil => exact .sl0 1 _ _
  | cons x0 L0 =>
    have h0 := hcell 0 x0 rfl
    obtain ⟨b, o, sp⟩ := a
    have hsp : sp = none ∧ b < w.heap.size := by
      by_cases h : sp = none
      · subst h
        rw [addr_add] at h0
        exact ⟨rfl, (cell_spot h0).2⟩
      · exfalso
        have := (cell_spot h0).1
        simp [Addr.add] at this
        exact h this
    obtain ⟨rfl, h2⟩ := hsp
    have := RepI.sl (E := Nob) (w := w) 1 ((x0 :: L0).map f) b o cap (fun i j => g ((x0 :: L0).getD i x0)) (by simpa using hc) (fun h => h) h2
      (fun i x hx => by
        rw [List.getElem?_map] at hx
        cases hy : (x0 :: L0)[i]? with
        | none => rw [hy] at hx; cases hx
        | some y => rw [hy] at hx; cases hx; simp [IV.fits, hcl, hone])
      (fun i j hi hj => by
        have hj0 : j = 0 := by omega
        subst hj0
        have hi' : i < (x0 :: L0).length := by simpa using hi
        have hx : (x0 :: L0)[i]? = some ((x0 :: L0).getD i x0) := by simp [List.getD, List.getElem?_eq_getElem hi']
        have := hcell i _ hx
        rw [addr_add] at this
        simpa using this)
      (fun i x j y hx hy => by
        rw [List.getElem?_map] at hx
        cases hz : (x0 :: L0)[i]? with
        | none => rw [hz] at hx; cases hx
        | some z =>
          rw [hz] at hx; cases hx
          rw [hcl] at hy
          have hj0 : j = 0 := by have := lt_of_get hy; simp at this; omega
          subst hj0
          simp at hy
          have hgz : (x0 :: L0).getD i x0 = z := by simp [List.getD, hz]
          rw [hgz, ← hy]
          exact hfg z)
    simpa using this

theorem iv_ints {k : IntKind} (ht : P.underlying t = some (.slice e)) (he : P.underlying e = some (.int k)) (hc : P.cellsOf e = 1) (h : DataW.Trod enc P w 0 (fun _ => true) held t v d ps) (hv : ∃ a len cap, v = .slice a len cap) :
    ∃ l : List Int, l.length ≤ maxLen ∧ (∀ n ∈ l, (Lit.int k n).wf = true) ∧ RepI Nob w (.sl 1 (l.map (IV.int k))) v := by
  obtain ⟨a, len, cap, rfl⟩ := hv
  obtain ⟨fuel, hf⟩ := h
  rcases open_ints ht he hc hf with ⟨hcs, _⟩ | ⟨x, l, c, zs, hcs, _, hl, hm, hz, _, hcell, hwz⟩
  · simp [Value.cells] at hcs
    obtain ⟨rfl, rfl, rfl⟩ := hcs
    exact ⟨[], by simp, by simp, .sl0 1 _ _⟩
  · simp [Value.cells] at hcs
    obtain ⟨rfl, rfl, rfl⟩ := hcs
    have hz' : zs.length = cap := by simpa using hz
    have hlen : (zs.take len).length = len := by simp; omega
    refine ⟨zs.take len, by rw [hlen]; omega, fun n hn => hwz n (List.mem_of_mem_take hn), ?_⟩
    have := rep_row (w := w) (fun n : Int => IV.int k n) (fun n => Value.int k n) (fun n => .int k n) (fun _ => rfl) (fun _ => rfl) (zs.take len) x cap (by omega) (fun i n hi => by
      have hlt := lt_of_get hi
      rw [List.getElem?_take, if_pos (by omega)] at hi
      have := hcell i (by omega)
      simpa [List.getD, hi] using this)
    rwa [hlen] at this

def intOf : Value → Int
  | .int _ n => n
  | _ => 0
theorem iv_arr {k : IntKind} {n : Nat} {r : Reach} {b0 : Nat} (ht : P.underlying t = some (.array n e)) (he : P.underlying e = some (.int k)) (hc : P.cellsOf e = 1) (hct : P.cellsOf t = n) (h : DataW.Trod enc P w 0 (fun _ => true) held t v d ps) (hval : Value.okWide P w r b0 t v) :
    ∃ l : List Int, l.length = n ∧ (∀ m ∈ l, (Lit.int k m).wf = true) ∧ RepI Nob w (.agg (l.map (IV.int k))) v := by
  obtain ⟨cs, rfl⟩ : ∃ cs, v = .agg cs := by
    simp only [Value.okWide, ht] at hval
    cases v <;> simp_all [Cell.okWide, Cell.ok]
  obtain ⟨fuel, hf⟩ := h
  obtain ⟨xs, m, _, _, hlen, hxs, hall⟩ := DataW.trod_array ht hf
  have hcs : (Value.agg cs).cells.toList = cs.toList := by simp [Value.cells]
  rw [hcs] at hlen hall
  rw [hct] at hlen
  have hel : ∀ i, i < n → ∃ z, cs.toList[i]? = some (.int k z) ∧ (Lit.int k z).wf = true := by
    intro i hi
    have h1 := hall i hi
    rw [hc, Nat.mul_one] at h1
    have hx : xs[i]? = some (xs[i]'(by omega)) := List.getElem?_eq_getElem (by omega)
    have hi2 : i < cs.toList.length := by omega
    rw [hx, List.drop_eq_getElem_cons hi2, List.take_succ_cons, List.take_zero] at h1
    obtain ⟨z, h2, _, h3⟩ := DataW.trod_int he h1
    exact ⟨z, by rw [List.getElem?_eq_getElem hi2]; simp only [List.cons.injEq, and_true] at h2; rw [h2], h3⟩
  refine ⟨cs.toList.map intOf, by simpa using hlen, fun z hz => ?_, ?_⟩
  · obtain ⟨u, hu, rfl⟩ := List.mem_map.1 hz
    obtain ⟨i, hi⟩ := List.getElem?_of_mem hu
    have hil := lt_of_get hi
    obtain ⟨z, h1, h2⟩ := hel i (by omega)
    rw [hi] at h1; cases h1; exact h2
  · refine .agg _ cs (by simp) (fun i y u hy hu => ?_)
    have hu' : cs.toList[i]? = some u := by rw [Array.getElem?_toList]; exact hu
    have hil := lt_of_get hu'
    obtain ⟨z, h1, h2⟩ := hel i (by omega)
    rw [hu'] at h1; cases h1
    rw [List.getElem?_map, List.getElem?_map, hu'] at hy
    cases hy
    exact .int k z
end
end Go.Proofs.YtpjncojljamacaaGreat.AM
set_option linter.unusedVariables false
set_option linter.unusedSimpArgs false
namespace Go.Proofs.YtpjncojljamacaaGreat.AM
open Go Go.ChangeShapes Go.WideShapes Go.ChangeAt Go.RowKit

def mk1 : List IV → IV
  | [y] => y
  | ys => .agg ys
def Shp (P : Program) : Nat → TypeId → List IV → Prop
  | 0, _, _ => False
  | n + 1, t, ys => match P.underlying t with
    | some .bool => ∃ b, ys = [.bool b]
    | some (.int k) => ∃ z, ys = [.int k z] ∧ (Lit.int k z).wf = true
    | some .string => ∃ s : ByteArray, ys = [.str s] ∧ s.size ≤ maxLen
    | some (.slice e) => ∃ xs : List IV, ys = [.sl (P.cellsOf e) xs] ∧ xs.length ≤ maxLen ∧ ∀ x ∈ xs, x = mk1 x.cells ∧ x.fits (P.cellsOf e) = true ∧ Shp P n e x.cells
    | some (.struct fs) => ys.length = P.cellsOf t ∧ ∀ f ∈ fs.toList, Shp P n f.type ((ys.drop f.offset).take (P.cellsOf f.type))
    | some (.array m e) => ys.length = P.cellsOf t ∧ ∀ i, i < m → Shp P n e ((ys.drop (i * P.cellsOf e)).take (P.cellsOf e))
    | _ => False
section
variable {H : Type} {enc : TypeId × Value → H} {P : Program} {w : World} {held : Bool}
structure Good (P : Program) (w : World) (n : Nat) (t : TypeId) (ys : List IV) (cs : List Value) : Prop where
  shp : Shp P n t ys
  len : ys.length = cs.length
  rep : ∀ (i : Nat) (y : IV) (v : Value), ys[i]? = some y → cs[i]? = some v → RepI Nob w y v
  one : ∀ y ∈ ys, y.one = true
/-! ### whole arguments -/
variable {t e : TypeId} {v : Value} {d : DataW H} {ps : List MemPlace}
end
end Go.Proofs.YtpjncojljamacaaGreat.AM
