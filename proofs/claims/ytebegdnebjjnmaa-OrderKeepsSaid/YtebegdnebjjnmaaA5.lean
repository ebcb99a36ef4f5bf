
/- The abstract machine, 5: reading rows, slices, fields. No condition. -/
import Derived.Test.YtebegdnebjjnmaaA4
set_option linter.unusedVariables false
set_option linter.unusedSimpArgs false
namespace Go.Proofs.Ytebegdnebjjnmaa.AM
open Go Go.RowKit

section
variable {P : Program} {X O : Nat → Prop} {w0 : World} {M : List MO} {ρ : Nat → Option Nat} {E : Nat → Prop} {w : World}

theorem tElem_spec {t : TypeId} {e : Elem} (h : tElem P t = some e) : P.underlying t = some (.slice e.T) ∧ ∃ i, P.info? e.T = some i ∧ i.size = e.sz ∧ i.bytes = e.bytes ∧ i.zero = some e.zero ∧ e.zero.cells.size = e.sz ∧ 0 < e.sz ∧ 0 < e.bytes := by
  unfold tElem at h
  split at h
  · rename_i T hT
    cases hi : P.info? T with
    | none => rw [hi] at h; cases h
    | some i =>
      rw [hi] at h
      simp only [Option.bind_some] at h
      cases hz : i.zero with
      | none => rw [hz] at h; cases h
      | some z =>
        rw [hz] at h
        simp only [Option.bind_some] at h
        split at h
        · rename_i hc; cases h; exact ⟨hT, i, hi, rfl, rfl, hz, hc.1, hc.2.1, hc.2.2⟩
        · cases h
  · cases h

theorem rowAt_spec {k n : Nat} {m : Bool} {T : TypeId} {sz : Nat} {xs : List IV} (h : rowAt M k n = some (m, T, sz, xs)) : M[k]? = some (.row m T sz xs) ∧ n = xs.length := by
  unfold rowAt at h
  split at h
  · split at h
    · cases h; exact ⟨by assumption, by assumption⟩
    · cases h
  · cases h

/-- What a slice of a row of the call's own is. -/
theorem msl_spec {k off len n : Nat} {v : Value} (h : RepA M ρ E w (.msl k off len n) v) {m : Bool} {T : TypeId} {sz : Nat} {xs : List IV} (hM : M[k]? = some (.row m T sz xs)) (hn : n = xs.length) :
    SlFact ρ w k T sz off len n v := by
  cases h with
  | msl _ _ _ _ _ m' T' sz' xs' h hn' hv hf =>
    rw [hM] at h; cases h
    exact hf hn

theorem rp_spec {k n i c : Nat} {v : Value} (h : RepA M ρ E w (.rp k n i c) v) {m : Bool} {T : TypeId} {sz : Nat} {xs : List IV} (hM : M[k]? = some (.row m T sz xs)) (hn : n = xs.length) :
    ∃ b, ρ k = some b ∧ v = .pointer (some ⟨b, i * sz + c, none⟩) := by
  cases h with
  | rp _ _ _ _ _ m' T' sz' xs' h hn' hv hf =>
    rw [hM] at h; cases h
    exact hf hn

theorem oneCell_of_one {y : IV} {u : Value} (h : RepI E w y u) (hy : y.one = true) : u.oneCell' = true := by
  cases h <;> first | rfl | (simp [IV.one] at hy)

theorem oneCell_of_oneA {y : AV} {u : Value} (h : RepA M ρ E w y u) (hy : y.one = true) : u.oneCell' = true := by
  cases h with
  | any v => simp [AV.one] at hy
  | iv x v h => exact oneCell_of_one h hy
  | nilsl A => rfl
  | msl k off len n v m T sz xs h hn hv hf => obtain ⟨A, l, c, rfl⟩ := hv; rfl
  | mp => rfl
  | rp k n i c v m T sz xs h hn hv hf => obtain ⟨A, rfl⟩ := hv; rfl
  | ip => rfl
  | agg => simp [AV.one] at hy
  | tup => simp [AV.one] at hy
  | fn => rfl

theorem not_tup_of_one {y : IV} (hy : y.one = true) : ∀ vs, y ≠ .tup vs := by rintro vs rfl; simp [IV.one] at hy

/-- A cell of a row of the call's own. -/
theorem row_cell (hm : MemOk X O w0 M ρ w) {k : Nat} {m : Bool} {T : TypeId} {sz : Nat} {xs : List IV} (hM : M[k]? = some (.row m T sz xs)) {b : Nat} (hb : ρ k = some b) :
    (∀ (i : Nat) (x : IV), xs[i]? = some x → x.fits sz = true) ∧ ∃ arr fz, w.heap[b]? = some (.cells arr T fz) ∧ Unfrozen arr fz ∧ xs.length * sz ≤ arr.size ∧
      ∀ (i : Nat) (x : IV) (j : Nat) (y : IV), xs[i]? = some x → x.cells[j]? = some y → ∃ u, arr[i * sz + j]? = some u ∧ RepI (excl X M ρ) w y u := by
  have h := hm.obj k _ hM
  obtain ⟨h1, h2⟩ := h
  rw [hb] at h2
  exact ⟨h1, h2⟩

theorem row_fits (hm : MemOk X O w0 M ρ w) {k : Nat} {m : Bool} {T : TypeId} {sz : Nat} {xs : List IV} (hM : M[k]? = some (.row m T sz xs)) :
    ∀ (i : Nat) (x : IV), xs[i]? = some x → x.fits sz = true := (hm.obj k _ hM).1

theorem cell_of_cells {b o : Nat} {arr : Array Value} {T : TypeId} {fz : Nat × Nat} (h : w.heap[b]? = some (.cells arr T fz)) : w.cell? ⟨b, o, none⟩ = arr[o]? := by
  simp [World.cell?, h]

/-- The cells of elements, laid out. -/
theorem layout {sz : Nat} {ys : List IV} (hf : ∀ (i : Nat) (x : IV), ys[i]? = some x → x.fits sz = true) (f : Nat → Option Value)
    (h : ∀ (i : Nat) (x : IV) (j : Nat) (y : IV), ys[i]? = some x → x.cells[j]? = some y → ∃ u, f (i * sz + j) = some u ∧ RepI E w y u) :
    ∃ news : List Value, news.length = ys.length * sz ∧ (∀ j u, news[j]? = some u → f j = some u ∧ u.oneCell' = true) ∧
      ∀ (i : Nat) (x : IV) (j : Nat) (y : IV), ys[i]? = some x → x.cells[j]? = some y → ∃ u, news[i * sz + j]? = some u ∧ RepI E w y u := by
  have key : ∀ p, p < ys.length * sz → ∃ u, f p = some u ∧ u.oneCell' = true := by
    intro p hp
    have hsz : 0 < sz := by rcases Nat.eq_zero_or_pos sz with h0 | h0; · subst h0; simp at hp
                            · exact h0
    have hi : p / sz < ys.length := (Nat.div_lt_iff_lt_mul hsz).2 hp
    have hx := List.getElem?_eq_getElem hi
    have hj : p % sz < (ys[p / sz]).cells.length := by rw [IV.fits_len (hf _ _ hx)]; exact Nat.mod_lt _ hsz
    have hy := List.getElem?_eq_getElem hj
    obtain ⟨u, hu, hr⟩ := h _ _ _ _ hx hy
    rw [show p / sz * sz + p % sz = p from by rw [Nat.mul_comm]; exact Nat.div_add_mod p sz] at hu
    exact ⟨u, hu, oneCell_of_one hr (IV.fits_one (hf _ _ hx) hy)⟩
  refine ⟨(List.range (ys.length * sz)).map fun p => (f p).getD undef, by simp, fun j u hj => ?_, fun i x j y hx hy => ?_⟩
  · rw [List.getElem?_map] at hj
    cases hr : (List.range (ys.length * sz))[j]? with
    | none => rw [hr] at hj; cases hj
    | some p =>
      rw [List.getElem?_eq_some_iff] at hr
      obtain ⟨h1, h2⟩ := hr
      simp at h1 h2
      subst h2
      obtain ⟨u', h3, h4⟩ := key j h1
      rw [List.getElem?_range (by simpa using h1)] at hj
      simp [h3] at hj
      subst hj; exact ⟨h3, h4⟩
  · obtain ⟨u, hu, hr⟩ := h i x j y hx hy
    refine ⟨u, ?_, hr⟩
    have hi := (List.getElem?_eq_some_iff.1 hx).1
    have hj := (List.getElem?_eq_some_iff.1 hy).1
    rw [IV.fits_len (hf i x hx)] at hj
    have : i * sz + j < ys.length * sz := Nat.lt_of_lt_of_le (by omega : i * sz + j < i * sz + sz) (by rw [← Nat.succ_mul]; exact Nat.mul_le_mul_right _ hi)
    rw [List.getElem?_map, List.getElem?_range this]
    simp [hu]

theorem str_fits (s : ByteArray) : ∀ (i : Nat) (x : IV), (s.data.toList.map fun b => IV.int .u8 b.toNat)[i]? = some x → x.fits 1 = true := by
  intro i x hx
  rw [List.getElem?_map] at hx
  cases h : s.data.toList[i]? with
  | none => rw [h] at hx; cases hx
  | some b => rw [h] at hx; cases hx; rfl

theorem getElem?_drop_take {α : Type} (l : List α) (a n i : Nat) (x : α) (h : ((l.drop a).take n)[i]? = some x) : l[a + i]? = some x ∧ i < n := by
  rw [List.getElem?_take] at h
  split at h
  · rw [List.getElem?_drop] at h; exact ⟨h, by assumption⟩
  · cases h

/-- What a slice or a string has in it, in memory: its length, its cells. -/
theorem elems_sound (hm : MemOk X O w0 M ρ w) {sz : Nat} {x : AV} {ys : List IV} {v : Value} (hx : RepA M ρ (excl X M ρ) w x v) (h : elems M sz x = some ys) :
    (∀ (i : Nat) (x : IV), ys[i]? = some x → x.fits sz = true) ∧
    (∀ w', (Builtin.lenOf v).run P w' = .ok ys.length w') ∧
    ∃ news : List Value, news.length = ys.length * sz ∧ (∀ u ∈ news, u.oneCell' = true) ∧
      (∀ (i : Nat) (x : IV) (j : Nat) (y : IV), ys[i]? = some x → x.cells[j]? = some y → ∃ u, news[i * sz + j]? = some u ∧ RepI (excl X M ρ) w y u) ∧
      ∀ m w', w'.heap = w.heap → m ≤ ys.length → (Builtin.firstCells sz m v).run P w' = .ok (news.take (m * sz)).toArray w' := by
  have fin : ∀ (b o len c : Nat), ys.length ≤ len → (∀ (i : Nat) (x : IV), ys[i]? = some x → x.fits sz = true) →
      (∀ (i : Nat) (x : IV) (j : Nat) (y : IV), ys[i]? = some x → x.cells[j]? = some y → ∃ u, w.cell? ⟨b, o + (i * sz + j), none⟩ = some u ∧ RepI (excl X M ρ) w y u) →
      ∃ news : List Value, news.length = ys.length * sz ∧ (∀ u ∈ news, u.oneCell' = true) ∧
      (∀ (i : Nat) (x : IV) (j : Nat) (y : IV), ys[i]? = some x → x.cells[j]? = some y → ∃ u, news[i * sz + j]? = some u ∧ RepI (excl X M ρ) w y u) ∧
      ∀ m w', w'.heap = w.heap → m ≤ ys.length → (Builtin.firstCells sz m (.slice (some ⟨b, o, none⟩) len c)).run P w' = .ok (news.take (m * sz)).toArray w' := by
    intro b o len c hlen hfits hcells
    obtain ⟨news, h1, h2, h3⟩ := layout hfits (fun p => w.cell? ⟨b, o + p, none⟩) hcells
    refine ⟨news, h1, fun u hu => ?_, h3, fun m w' hw' hm' => ?_⟩
    · obtain ⟨j, hj⟩ := List.getElem?_of_mem hu
      exact (h2 j u hj).2
    · have hle : m * sz ≤ news.length := by rw [h1]; exact Nat.mul_le_mul_right _ hm'
      refine run_firstCells_some w' sz m _ _ _ (news.take (m * sz)) (by rw [List.length_take]; omega) (fun j u hj => ?_)
      rw [List.getElem?_take] at hj
      split at hj
      · rw [Addr.add_lit]
        have := (h2 j u hj).1
        simp only [World.cell?, hw'] at this ⊢
        exact this
      · cases hj
  unfold elems at h
  split at h
  · rename_i sz' xs
    split at h
    · cases h
      cases hx with
      | iv _ _ hx =>
        obtain ⟨A, c, hv, hc, hh⟩ := inv_rep_sl hx
        subst hv
        rename_i hsz
        rcases hh with rfl | ⟨b, o, rfl, hE, hb, hs, hcell⟩
        · exact ⟨by simp, fun _ => rfl, [], by simp, by simp, by simp, fun m w' _ hm' => by
            have : m = 0 := by simpa using hm'
            subst this
            cases A <;> simp [Builtin.firstCells, loadCells, loadCellsFrom]⟩
        · rcases hsz with rfl | rfl
          · exact ⟨hs, fun _ => rfl, fin b o _ c (Nat.le_refl _) hs hcell⟩
          · exact ⟨by simp, fun _ => rfl, fin b o _ c (Nat.le_refl _) (by simp) (by simp)⟩
    · cases h
  · cases h
    obtain ⟨A, rfl⟩ := inv_nilsl hx
    exact ⟨by simp, fun _ => rfl, [], by simp, by simp, by simp, fun m w' _ hm' => by
      have : m = 0 := by simpa using hm'
      subst this
      cases A <;> simp [Builtin.firstCells, loadCells, loadCellsFrom]⟩
  · rename_i k off len n
    cases hr : rowAt M k n with
    | none => rw [hr] at h; cases h
    | some r =>
      obtain ⟨m, T, sz', xs⟩ := r
      rw [hr] at h
      simp only [Option.bind_some] at h
      split at h
      · rename_i hc
        obtain ⟨rfl, hle⟩ := hc
        cases h
        obtain ⟨hM, hn⟩ := rowAt_spec hr
        obtain ⟨h1, A, c, hv, hlc, h2⟩ := msl_spec hx hM hn
        subst hv
        have hlen : ((xs.drop off).take len).length = len := by rw [List.length_take, List.length_drop]; omega
        have hfits : ∀ (i : Nat) (x : IV), ((xs.drop off).take len)[i]? = some x → x.fits sz' = true := fun i x hx' => row_fits hm hM _ _ (getElem?_drop_take _ _ _ _ _ hx').1
        refine ⟨hfits, fun _ => by rw [hlen]; rfl, ?_⟩
        cases hk : ρ k with
        | none =>
          rw [hk] at h2
          obtain ⟨rfl, hn0⟩ := h2
          have hl0 : len = 0 := by omega
          subst hl0
          exact ⟨[], by simp, by simp, by simp, fun m w' _ hm' => by
            have : m = 0 := by simpa using hm'
            subst this
            cases A <;> simp [Builtin.firstCells, loadCells, loadCellsFrom]⟩
        | some b =>
          rw [hk] at h2
          obtain ⟨h3, h4⟩ := h2
          rcases Nat.eq_zero_or_pos c with hc0 | hc0
          · have hl0 : len = 0 := by omega
            subst hl0
            exact ⟨[], by simp, by simp, by simp, fun m w' _ hm' => by
              have : m = 0 := by simpa using hm'
              subst this
              cases A <;> simp [Builtin.firstCells, loadCells, loadCellsFrom]⟩
          · have hA := h3 hc0
            subst hA
            obtain ⟨_, arr, fz, h5, h6, h7, h8⟩ := row_cell hm hM hk
            refine fin b (off * sz') len c (by omega) hfits (fun i x j y hx' hy => ?_)
            obtain ⟨hx2, hi⟩ := getElem?_drop_take _ _ _ _ _ hx'
            obtain ⟨u, hu, hr'⟩ := h8 _ _ _ _ hx2 hy
            refine ⟨u, ?_, hr'⟩
            rw [cell_of_cells h5, ← hu, Nat.add_mul, Nat.add_assoc]
      · cases h
  · rename_i s
    split at h
    · rename_i hsz
      subst hsz
      cases h
      have hv := inv_str hx
      subst hv
      refine ⟨str_fits s, fun _ => by simp [Builtin.lenOf], (s.data.toList.map fun b => Value.int .u8 b.toNat), by simp, by simp; intro a _; rfl, fun i x j y hx' hy => ?_, fun m w' _ hm' => ?_⟩
      · rw [List.getElem?_map] at hx'
        cases hs : s.data.toList[i]? with
        | none => rw [hs] at hx'; cases hx'
        | some b =>
          rw [hs] at hx'; cases hx'
          have : j = 0 := by
            rcases Nat.eq_zero_or_pos j with h0 | h0
            · exact h0
            · simp [IV.cells, show ∃ q, j = q + 1 from ⟨j - 1, by omega⟩] at hy
              obtain ⟨q, rfl⟩ : ∃ q, j = q + 1 := ⟨j - 1, by omega⟩
              simp at hy
          subst this
          simp [IV.cells] at hy
          subst hy
          exact ⟨_, by simp [hs], .int _ _⟩
      · simp only [Builtin.firstCells, Sem.run_pure, Nat.mul_one]
        congr 1
        apply Array.ext'
        simp [ByteArray.extract, ByteArray.copySlice, List.map_take]
    · cases h
  · cases h

end
end Go.Proofs.Ytebegdnebjjnmaa.AM
