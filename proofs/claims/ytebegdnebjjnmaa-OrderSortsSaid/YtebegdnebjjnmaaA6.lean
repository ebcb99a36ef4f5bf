
/- The abstract machine, 6: loads, addresses, parts, slices' bounds. No condition. -/
import Derived.Test.YtebegdnebjjnmaaA5
set_option linter.unusedVariables false
set_option linter.unusedSimpArgs false
namespace Go.Proofs.Ytebegdnebjjnmaa.AM
open Go Go.RowKit

section
variable {P : Program} {X O : Nat → Prop} {w0 : World} {M : List MO} {ρ : Nat → Option Nat} {E : Nat → Prop} {w : World}

theorem run_typeInfo {t : TypeId} {i : TypeInfo} (h : P.info? t = some i) (w : World) : (typeInfo t).run P w = .ok i w := by simp [typeInfo, h]
theorem run_sizeOf {t : TypeId} {i : TypeInfo} (h : P.info? t = some i) (w : World) : (sizeOf t).run P w = .ok i.size w := by simp [sizeOf, run_typeInfo h]
theorem run_zeroValue {t : TypeId} {i : TypeInfo} {z : Value} (h : P.info? t = some i) (hz : i.zero = some z) (w : World) : (zeroValue t).run P w = .ok z w := by simp [zeroValue, run_typeInfo h, hz]

theorem tAgg_spec {t : TypeId} {ag : Option Nat} (h : tAgg P t = some ag) :
    ∃ i, P.info? t = some i ∧ match ag with
      | none => ∀ w, (isAgg t).run P w = .ok false w
      | some n => (∀ w, (isAgg t).run P w = .ok true w) ∧ i.size = n := by
  unfold tAgg at h
  cases hu : P.underlying t with
  | none => simp [hu] at h
  | some d =>
    cases hi : P.info? t with
    | none => cases d <;> simp [hu, hi] at h
    | some i =>
      refine ⟨i, rfl, ?_⟩
      simp only [hu, hi] at h
      cases d <;> cases h <;> first
        | exact fun w => by simp [isAgg, run_underlying hu]
        | exact ⟨fun w => by simp [isAgg, run_underlying hu], rfl⟩

theorem run_loadVar_one {t : TypeId} (h : tAgg P t = some none) {a : Addr} {u : Value} (hc : w.cell? a = some u) : (loadVar t a).run P w = .ok u w := by
  obtain ⟨i, hi, h1⟩ := tAgg_spec h
  simp only [loadVar, Sem.run_bind, h1 w, Result.andThen, run_load, hc, Bool.false_eq_true, if_false, Sem.run_ite]

theorem run_loadVar_agg {t : TypeId} {n : Nat} (h : tAgg P t = some (some n)) {a : Addr} {cs : List Value} (hl : cs.length = n) (hc : ∀ j v, cs[j]? = some v → w.cell? (a.add j) = some v) :
    (loadVar t a).run P w = .ok (.agg cs.toArray) w := by
  obtain ⟨i, hi, h1, h2⟩ := tAgg_spec h
  have := run_loadCells_list (P := P) w a cs hc
  rw [hl, ← h2] at this
  simp only [loadVar, Sem.run_bind, h1 w, Result.andThen, if_true, Sem.run_ite, run_sizeOf hi, this, Sem.run_pure]

theorem run_part_one {t : TypeId} (h : tAgg P t = some none) {cs : Array Value} {off : Nat} {u : Value} (hc : cs[off]? = some u) : (part t cs off).run P w = .ok u w := by
  obtain ⟨i, hi, h1⟩ := tAgg_spec h
  simp only [part, Sem.run_bind, h1 w, Result.andThen, Bool.false_eq_true, if_false, Sem.run_ite, hc, Sem.run_pure]

theorem run_part_agg {t : TypeId} {n : Nat} (h : tAgg P t = some (some n)) {cs : Array Value} {off : Nat} : (part t cs off).run P w = .ok (.agg (cs.extract off (off + n))) w := by
  obtain ⟨i, hi, h1, h2⟩ := tAgg_spec h
  simp only [part, Sem.run_bind, h1 w, Result.andThen, if_true, Sem.run_ite, run_sizeOf hi, Sem.run_pure, h2]

/-- A part of an element, out of its cells. -/
theorem elemPart_load {t : TypeId} {ag : Option Nat} (ht : tAgg P t = some ag) {x r : IV} {c b o : Nat} (h : elemPart ag x c = some r)
    (hc : ∀ (j : Nat) (y : IV), x.cells[j]? = some y → ∃ u, w.cell? ⟨b, o + j, none⟩ = some u ∧ RepI E w y u) :
    ∃ u, (loadVar t ⟨b, o + c, none⟩).run P w = .ok u w ∧ RepI E w r u := by
  unfold elemPart at h
  cases ag with
  | none =>
    obtain ⟨u, hu, hr⟩ := hc c r h
    exact ⟨u, run_loadVar_one ht hu, hr⟩
  | some n =>
    simp only at h
    split at h
    · rename_i hle
      cases h
      let f : Nat → Value := fun j => (w.cell? ⟨b, o + (c + j), none⟩).getD undef
      have hf : ∀ j, j < n → ∃ y, x.cells[c + j]? = some y ∧ w.cell? ⟨b, o + (c + j), none⟩ = some (f j) ∧ RepI E w y (f j) := by
        intro j hj
        have hlt : c + j < x.cells.length := by omega
        obtain ⟨u, hu, hr⟩ := hc _ _ (List.getElem?_eq_getElem hlt)
        have e : f j = u := by simp only [f, hu, Option.getD_some]
        exact ⟨_, List.getElem?_eq_getElem hlt, by rw [e]; exact hu, by rw [e]; exact hr⟩
      refine ⟨_, run_loadVar_agg ht (cs := (List.range n).map f) (by simp) (fun j v hv => ?_), .agg _ _ (by simp [List.length_take, List.length_drop]; omega) (fun i y z hy hz => ?_)⟩
      · rw [List.getElem?_map] at hv
        have hj : j < n := by
          rcases Nat.lt_or_ge j n with h | h
          · exact h
          · rw [List.getElem?_eq_none (by simpa using h)] at hv; cases hv
        rw [List.getElem?_range hj] at hv
        cases hv
        obtain ⟨_, _, h2, _⟩ := hf j hj
        rw [Addr.add_lit, Nat.add_assoc]; exact h2
      · rw [List.getElem?_take] at hy
        split at hy
        · rename_i hin
          rw [List.getElem?_drop] at hy
          obtain ⟨y', h1, _, h3⟩ := hf i hin
          rw [h1] at hy; cases hy
          rw [List.getElem?_toArray, List.getElem?_map, List.getElem?_range hin] at hz
          cases hz; exact h3
        · cases hy
    · cases h

/-- The same of a variable's cells. -/
theorem varPart_load {t : TypeId} {ag : Option Nat} (ht : tAgg P t = some ag) {cs : List AV} {r : AV} {c b : Nat} (h : varPart ag cs c = some r)
    (hc : ∀ (j : Nat) (y : AV), cs[j]? = some y → ∃ u, w.cell? ⟨b, j, none⟩ = some u ∧ RepA M ρ E w y u) :
    ∃ u, (loadVar t ⟨b, c, none⟩).run P w = .ok u w ∧ RepA M ρ E w r u := by
  unfold varPart at h
  cases ag with
  | none =>
    obtain ⟨u, hu, hr⟩ := hc c r h
    exact ⟨u, run_loadVar_one ht hu, hr⟩
  | some n =>
    simp only at h
    split at h
    · rename_i hle
      cases h
      let f : Nat → Value := fun j => (w.cell? ⟨b, c + j, none⟩).getD undef
      have hf : ∀ j, j < n → ∃ y, cs[c + j]? = some y ∧ w.cell? ⟨b, c + j, none⟩ = some (f j) ∧ RepA M ρ E w y (f j) := by
        intro j hj
        have hlt : c + j < cs.length := by omega
        obtain ⟨u, hu, hr⟩ := hc _ _ (List.getElem?_eq_getElem hlt)
        have e : f j = u := by simp only [f, hu, Option.getD_some]
        exact ⟨_, List.getElem?_eq_getElem hlt, by rw [e]; exact hu, by rw [e]; exact hr⟩
      refine ⟨_, run_loadVar_agg ht (cs := (List.range n).map f) (by simp) (fun j v hv => ?_), rep_mkAgg (by simp [List.length_take, List.length_drop]; omega) (fun i y z hy hz => ?_)⟩
      · rw [List.getElem?_map] at hv
        have hj : j < n := by
          rcases Nat.lt_or_ge j n with h | h
          · exact h
          · rw [List.getElem?_eq_none (by simpa using h)] at hv; cases hv
        rw [List.getElem?_range hj] at hv
        cases hv
        obtain ⟨_, _, h2, _⟩ := hf j hj
        rw [Addr.add_lit]; exact h2
      · rw [List.getElem?_take] at hy
        split at hy
        · rename_i hin
          rw [List.getElem?_drop] at hy
          obtain ⟨y', h1, _, h3⟩ := hf i hin
          rw [h1] at hy; cases hy
          rw [List.getElem?_toArray, List.getElem?_map, List.getElem?_range hin] at hz
          cases hz; exact h3
        · cases hy
    · cases h

/-- Parts of a struct that is a value. -/
theorem elemPart_part {t : TypeId} {ag : Option Nat} (ht : tAgg P t = some ag) {cs : List IV} {r : IV} {off : Nat} {vs : Array Value} (h : elemPart ag (.agg cs) off = some r) (hl : vs.size = cs.length)
    (hc : ∀ (i : Nat) (y : IV) (z : Value), cs[i]? = some y → vs[i]? = some z → RepI E w y z) : ∃ u, (part t vs off).run P w = .ok u w ∧ RepI E w r u := by
  unfold elemPart at h
  cases ag with
  | none =>
    simp only [IV.cells] at h
    have hlt := (List.getElem?_eq_some_iff.1 h).1
    have hv : vs[off]? = some (vs[off]'(by omega)) := Array.getElem?_eq_getElem (by omega)
    exact ⟨_, run_part_one ht hv, hc off r _ h hv⟩
  | some n =>
    change (if off + n ≤ (IV.agg cs).cells.length then some (IV.agg (((IV.agg cs).cells.drop off).take n)) else none) = some r at h
    by_cases hle : off + n ≤ cs.length
    · rw [show (if off + n ≤ (IV.agg cs).cells.length then some (IV.agg (((IV.agg cs).cells.drop off).take n)) else none) = some (IV.agg ((cs.drop off).take n)) from if_pos hle] at h
      cases h
      refine ⟨_, run_part_agg ht, .agg _ _ (by simp [List.length_take, List.length_drop, Array.size_extract]; omega) (fun i y z hy hz => ?_)⟩
      rw [List.getElem?_take] at hy
      split at hy
      · rw [List.getElem?_drop] at hy
        rw [Array.getElem?_extract] at hz
        split at hz
        · exact hc _ _ _ hy hz
        · cases hz
      · cases hy
    · rw [show (if off + n ≤ (IV.agg cs).cells.length then some (IV.agg (((IV.agg cs).cells.drop off).take n)) else none) = none from if_neg hle] at h; cases h

theorem varPart_part {t : TypeId} {ag : Option Nat} (ht : tAgg P t = some ag) {cs : List AV} {r : AV} {off : Nat} {vs : Array Value} (h : varPart ag cs off = some r) (hl : vs.size = cs.length)
    (hc : ∀ (i : Nat) (y : AV) (z : Value), cs[i]? = some y → vs[i]? = some z → RepA M ρ E w y z) : ∃ u, (part t vs off).run P w = .ok u w ∧ RepA M ρ E w r u := by
  unfold varPart at h
  cases ag with
  | none =>
    simp only at h
    have hlt := (List.getElem?_eq_some_iff.1 h).1
    have hv : vs[off]? = some (vs[off]'(by omega)) := Array.getElem?_eq_getElem (by omega)
    exact ⟨_, run_part_one ht hv, hc off r _ h hv⟩
  | some n =>
    simp only at h
    split at h
    · rename_i hle
      cases h
      refine ⟨_, run_part_agg ht, rep_mkAgg (by simp [List.length_take, List.length_drop, Array.size_extract]; omega) (fun i y z hy hz => ?_)⟩
      rw [List.getElem?_take] at hy
      split at hy
      · rw [List.getElem?_drop] at hy
        rw [Array.getElem?_extract] at hz
        split at hz
        · exact hc _ _ _ hy hz
        · cases hz
      · cases hy
    · cases h

theorem var_cell (hm : MemOk X O w0 M ρ w) {k : Nat} {T : TypeId} {cs : List AV} (hM : M[k]? = some (.var T cs)) : ∃ b arr fz, ρ k = some b ∧ w.heap[b]? = some (.cells arr T fz) ∧ Unfrozen arr fz ∧ arr.size = cs.length ∧
    ∀ (j : Nat) (y : AV), cs[j]? = some y → ∃ u, w.cell? ⟨b, j, none⟩ = some u ∧ RepA M ρ (excl X M ρ) w y u := by
  obtain ⟨b, arr, fz, h1, h2, h3, h4, h5⟩ := hm.obj k _ hM
  refine ⟨b, arr, fz, h1, h2, h3, h4, fun j y hy => ?_⟩
  have hlt := (List.getElem?_eq_some_iff.1 hy).1
  have hv : arr[j]? = some (arr[j]'(by omega)) := Array.getElem?_eq_getElem (by omega)
  exact ⟨_, (cell_of_cells h2).trans hv, h5 j y _ hy hv⟩

/-- Loads. -/
theorem load_var (hm : MemOk X O w0 M ρ w) {t : TypeId} {ag : Option Nat} (ht : tAgg P t = some ag) {k off : Nat} {T : TypeId} {cs : List AV} {r : AV} {v : Value} (hv : RepA M ρ (excl X M ρ) w (.mp k off) v)
    (hM : M[k]? = some (.var T cs)) (h : varPart ag cs off = some r) : ∃ u, (Instr.loadAt t v).run P w = .ok u w ∧ RepA M ρ (excl X M ρ) w r u := by
  obtain ⟨T', cs', b, h1, hb, rfl⟩ := inv_mp hv
  obtain ⟨b', arr, fz, h2, _, _, _, h6⟩ := var_cell hm hM
  rw [hb] at h2; cases h2
  obtain ⟨u, hu, hr⟩ := varPart_load ht h h6
  exact ⟨u, by simp [Instr.loadAt, Instr.sureAddr, hu], hr⟩

theorem load_row (hm : MemOk X O w0 M ρ w) {t : TypeId} {ag : Option Nat} (ht : tAgg P t = some ag) {k n i c : Nat} {m : Bool} {T : TypeId} {sz : Nat} {xs : List IV} {x r : IV} {v : Value} (hv : RepA M ρ (excl X M ρ) w (.rp k n i c) v)
    (hM : rowAt M k n = some (m, T, sz, xs)) (hx : xs[i]? = some x) (h : elemPart ag x c = some r) : ∃ u, (Instr.loadAt t v).run P w = .ok u w ∧ RepI (excl X M ρ) w r u := by
  obtain ⟨hM, hn⟩ := rowAt_spec hM
  obtain ⟨b, hb, rfl⟩ := rp_spec hv hM hn
  obtain ⟨_, arr, fz, h5, h6, h7, h8⟩ := row_cell hm hM hb
  obtain ⟨u, hu, hr⟩ := elemPart_load (E := excl X M ρ) (w := w) (b := b) (o := i * sz) ht h (fun j y hy => by
    obtain ⟨u, h1, h2⟩ := h8 i x j y hx hy
    exact ⟨u, (cell_of_cells h5).trans h1, h2⟩)
  exact ⟨u, by simp [Instr.loadAt, Instr.sureAddr, hu], hr⟩

theorem load_ip {t : TypeId} {ag : Option Nat} (ht : tAgg P t = some ag) {sz i c : Nat} {xs : List IV} {x r : IV} {v : Value} (hv : RepA M ρ E w (.ip sz xs i c) v)
    (hx : xs[i]? = some x) (h : elemPart ag x c = some r) : ∃ u, (Instr.loadAt t v).run P w = .ok u w ∧ RepI E w r u := by
  cases hv with
  | ip _ _ _ _ b o cap hr hi =>
    obtain ⟨A, c', hA, _, h2⟩ := inv_rep_sl hr
    cases hA
    rcases h2 with rfl | ⟨b', o', e, hE, hb, hs, hcell⟩
    · simp at hi
    · cases e
      obtain ⟨u, hu, hr⟩ := elemPart_load (E := E) (w := w) (b := b) (o := o + i * sz) ht h (fun j y hy => by
        obtain ⟨u, h1, h2⟩ := hcell i x j y hx hy
        exact ⟨u, by rw [Nat.add_assoc]; exact h1, h2⟩)
      rw [Nat.add_assoc] at hu
      exact ⟨u, by simp [Instr.loadAt, Instr.sureAddr, hu], hr⟩

/-- Fields' addresses. -/
theorem tField_spec {s : TypeId} {f off : Nat} {ft : TypeId} (h : tField P s f = some (off, ft)) : ∃ fs d i, P.underlying s = some (.struct fs) ∧ fs[f]? = some d ∧ d.offset = off ∧ d.type = ft ∧ P.info? ft = some i ∧ i.size ≠ 0 := by
  unfold tField at h
  split at h
  · rename_i fs hfs
    cases hd : fs[f]? with
    | none => rw [hd] at h; cases h
    | some d =>
      rw [hd] at h
      simp only [Option.bind_some] at h
      cases hi : P.info? d.type with
      | none => rw [hi] at h; cases h
      | some i =>
        rw [hi] at h
        simp only [Option.bind_some] at h
        split at h
        · cases h
        · cases h; exact ⟨fs, d, i, hfs, hd, rfl, rfl, hi, by assumption⟩
  · cases h

theorem run_fieldAt {s : TypeId} {f off : Nat} {ft : TypeId} (h : tField P s f = some (off, ft)) (a : Addr) : (Instr.fieldAt s (.pointer (some a)) f).run P w = .ok (.pointer (some (a.add off))) w := by
  obtain ⟨fs, d, i, h1, h2, rfl, rfl, h3, h4⟩ := tField_spec h
  simp [Instr.fieldAt, run_underlying h1, h2, Instr.sureAddr, fieldPlace, run_sizeOf h3, h4]

theorem run_field {s : TypeId} {f off : Nat} {ft : TypeId} (h : tField P s f = some (off, ft)) {vs : Array Value} {u : Value} (hp : (part ft vs off).run P w = .ok u w) : (Instr.field s (.agg vs) f).run P w = .ok u w := by
  obtain ⟨fs, d, i, h1, h2, rfl, rfl, h3, h4⟩ := tField_spec h
  simp [Instr.field, run_underlying h1, h2, asAgg, hp]

/-- Indexes' addresses. -/
theorem run_indexAt {t : TypeId} {e : Elem} (h : tElem P t = some e) (b o len c : Nat) (k : IntKind) (j : Int) (h0 : 0 ≤ j) (h1 : j < len) :
    (Instr.indexAt t (.slice (some ⟨b, o, none⟩) len c) (.int k j)).run P w = .ok (.pointer (some ⟨b, o + j.toNat * e.sz, none⟩)) w := by
  obtain ⟨h2, i, hi, hs, _⟩ := tElem_spec h
  simp [Instr.indexAt, asIntOf, run_underlying h2, h0, h1, run_sizeOf hi, hs, Addr.add_lit]

theorem tArr_spec {t : TypeId} {n et sz : Nat} (h : tArr P t = some (n, et, sz)) : P.underlying t = some (.array n et) ∧ (∃ i, P.info? et = some i ∧ i.size = sz) ∧ 1 < n := by
  unfold tArr at h
  split at h
  · rename_i n' e he
    cases hi : P.info? e with
    | none => rw [hi] at h; cases h
    | some i =>
      rw [hi] at h
      simp only [Option.bind_some] at h
      split at h
      · cases h; exact ⟨he, ⟨i, hi, rfl⟩, by assumption⟩
      · cases h
  · cases h

theorem run_indexAt_arr {t : TypeId} {n et sz : Nat} (h : tArr P t = some (n, et, sz)) (b o : Nat) (k : IntKind) (j : Int) (h0 : 0 ≤ j) (h1 : j < n) :
    (Instr.indexAt t (.pointer (some ⟨b, o, none⟩)) (.int k j)).run P w = .ok (.pointer (some ⟨b, o + j.toNat * sz, none⟩)) w := by
  obtain ⟨h2, ⟨i, hi, hs⟩, h3⟩ := tArr_spec h
  simp [Instr.indexAt, asIntOf, run_underlying h2, Instr.sureAddr, h0, h1, run_sizeOf hi, hs, Addr.add_lit]

theorem run_index_arr {t : TypeId} {n et sz : Nat} (h : tArr P t = some (n, et, sz)) {vs : Array Value} {u : Value} (k : IntKind) (j : Int) (h0 : 0 ≤ j) (h1 : j < n) (hp : (part et vs (j.toNat * sz)).run P w = .ok u w) :
    (Instr.index t (.agg vs) (.int k j)).run P w = .ok u w := by
  obtain ⟨h2, ⟨i, hi, hs⟩, h3⟩ := tArr_spec h
  simp [Instr.index, asIntOf, run_underlying h2, h0, h1, run_sizeOf hi, hs, hp]

theorem run_index_str {t : TypeId} (h : tKind P t = some .str) (s : ByteArray) (k : IntKind) (j : Int) (h0 : 0 ≤ j) (h1 : j < s.size) :
    (Instr.index t (.string s) (.int k j)).run P w = .ok (.int .u8 (s.data.toList.getD j.toNat 0).toNat) w := by
  have hlt : j.toNat < s.size := by omega
  have hlt' : j.toNat < s.data.size := hlt
  simp only [Instr.index, asIntOf, Sem.run_bind, Sem.run_pure, Result.andThen, run_underlying (tKind_str h), if_pos h0]
  have e : s[j.toNat]? = some (s[j.toNat]'hlt) := getElem?_pos s j.toNat hlt
  rw [e]
  simp only [Sem.run_pure, List.getD, Array.getElem?_toList, Array.getElem?_eq_getElem hlt', Option.getD_some]
  rfl

end
end Go.Proofs.Ytebegdnebjjnmaa.AM
