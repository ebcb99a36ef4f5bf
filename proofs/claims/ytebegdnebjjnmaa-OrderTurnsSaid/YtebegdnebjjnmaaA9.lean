
/- The abstract machine, 9: rows are frozen, written, appended to, copied into, made. No condition. -/
import Derived.Test.YtebegdnebjjnmaaA8
set_option linter.unusedVariables false
set_option linter.unusedSimpArgs false
namespace Go.Proofs.Ytebegdnebjjnmaa.AM
open Go Go.RowKit

section
variable {P : Program} {X O : Nat → Prop} {w0 : World} {M : List MO} {ρ : Nat → Option Nat} {E : Nat → Prop} {w : World}

/-- A frozen row, as a value without memory. -/
theorem rep_frozen (hm : MemOk X O w0 M ρ w) {k off len n : Nat} {T : TypeId} {sz : Nat} {xs : List IV} {v : Value} (hx : RepA M ρ (excl X M ρ) w (.msl k off len n) v) (hM : M[k]? = some (.row false T sz xs)) (hn : n = xs.length) :
    RepI (excl X M ρ) w (.sl sz ((xs.drop off).take len)) v := by
  obtain ⟨h1, A, c, hv, hlc, h2⟩ := msl_spec hx hM hn
  subst hv
  have hlen : ((xs.drop off).take len).length = len := by rw [List.length_take, List.length_drop]; omega
  rcases Nat.eq_zero_or_pos len with h0 | h0
  · subst h0; simp only [List.take_zero]; exact .sl0 _ _ _
  cases hk : ρ k with
  | none => rw [hk] at h2; omega
  | some b =>
    rw [hk] at h2
    obtain ⟨h3, h4⟩ := h2
    have hA := h3 (by omega)
    subst hA
    obtain ⟨hf, arr, fz, h5, h6, h7, h8⟩ := row_cell hm hM hk
    have hlt := lt_of_get hM
    have hE : ¬ excl X M ρ b := by
      rintro (hX | ⟨j, o, hj, hmut, hρ⟩)
      · exact (hm.own k b hlt hk).1 hX
      · have := hm.inj j k b (lt_of_get hj) hlt hρ hk
        subst this
        rw [hM] at hj; cases hj; cases hmut
    have := rep_sl_mk (E := excl X M ρ) (w := w) (sz := sz) (xs := (xs.drop off).take len) (b := b) (o := off * sz) (c := c) (by rw [hlen]; exact hlc) hE (hm.lt hlt hk)
      (fun i x hx => hf _ x (getElem?_drop_take _ _ _ _ _ hx).1)
      (fun i x j y hx hy => by
        obtain ⟨u, g1, g2⟩ := h8 _ x j y (getElem?_drop_take _ _ _ _ _ hx).1 hy
        exact ⟨u, by rw [cell_of_cells h5, ← g1, Nat.add_mul, Nat.add_assoc], g2⟩)
    rw [hlen] at this
    exact this

/-- What freezing leaves. -/
def FreezeOk (X O : Nat → Prop) (w0 : World) (M : List MO) (ρ : Nat → Option Nat) (w : World) (M' : List MO) : Prop := MemOk X O w0 M' ρ w ∧ Evo M M' ρ ρ (excl X M ρ) (excl X M' ρ) w w ∧ M'.length = M.length

theorem FreezeOk.trans {M' M'' : List MO} (h : FreezeOk X O w0 M ρ w M') (k : FreezeOk X O w0 M' ρ w M'') : FreezeOk X O w0 M ρ w M'' := ⟨k.1, h.2.1.trans k.2.1, k.2.2.trans h.2.2⟩

theorem cellF_sound (hm : MemOk X O w0 M ρ w) {x : AV} {y : IV} {M' : List MO} {v : Value} (hx : RepA M ρ (excl X M ρ) w x v) (h : cellF M x = some (y, M')) : FreezeOk X O w0 M ρ w M' ∧ RepI (excl X M' ρ) w y v := by
  have id : FreezeOk X O w0 M ρ w M := ⟨hm, Evo.refl _ _ _ _, rfl⟩
  unfold cellF at h
  split at h
  · cases h
  · cases h
  · cases h
    cases hx with | iv _ _ hx => exact ⟨id, hx⟩
  · cases h
    obtain ⟨A, rfl⟩ := inv_nilsl hx
    exact ⟨id, .sl0 _ _ _⟩
  · rename_i k off len n
    cases hr : rowAt M k n with
    | none => rw [hr] at h; cases h
    | some q =>
      obtain ⟨m, T, sz, xs⟩ := q
      rw [hr] at h
      simp only [Option.bind_some] at h
      split at h
      · cases h
        obtain ⟨hM, hn⟩ := rowAt_spec hr
        have hev := Evo.freeze (X := X) (ρ := ρ) (w := w) k m T sz xs hM
        have hm' := hm.freeze k m T sz xs hM
        refine ⟨⟨hm', hev, by simp⟩, rep_frozen hm' (hx.mono hev) (List.getElem?_set_self (lt_of_get hM)) hn⟩
      · cases h
  · cases h

theorem cellsF_sound : ∀ (l : List AV) {M M' : List MO} {ys : List IV} (hm : MemOk X O w0 M ρ w) (vs : List Value) (hl : vs.length = l.length)
    (hx : ∀ (i : Nat) (x : AV) (v : Value), l[i]? = some x → vs[i]? = some v → RepA M ρ (excl X M ρ) w x v) (h : cellsF M l = some (ys, M')),
    FreezeOk X O w0 M ρ w M' ∧ ys.length = l.length ∧ ∀ (i : Nat) (y : IV) (v : Value), ys[i]? = some y → vs[i]? = some v → RepI (excl X M' ρ) w y v
  | [], M, M', ys, hm, vs, hl, hx, h => by
    simp [cellsF] at h; obtain ⟨rfl, rfl⟩ := h
    exact ⟨⟨hm, Evo.refl _ _ _ _, rfl⟩, rfl, by simp⟩
  | x :: l, M, M', ys, hm, vs, hl, hx, h => by
    cases vs with
    | nil => simp at hl
    | cons v vs =>
    simp only [cellsF] at h
    cases h1 : cellF M x with
    | none => rw [h1] at h; cases h
    | some q =>
      obtain ⟨y, M1⟩ := q
      rw [h1] at h
      simp only [Option.bind_some] at h
      cases h2 : cellsF M1 l with
      | none => rw [h2] at h; cases h
      | some q2 =>
        obtain ⟨ys', M2⟩ := q2
        rw [h2] at h
        simp only [Option.map_some, Option.some.injEq, Prod.mk.injEq] at h
        obtain ⟨rfl, rfl⟩ := h
        obtain ⟨hf, hy⟩ := cellF_sound hm (hx 0 x v rfl rfl) h1
        obtain ⟨hf2, hl2, hy2⟩ := cellsF_sound l hf.1 vs (by simpa using hl) (fun i x v h3 h4 => (hx (i + 1) x v h3 h4).mono hf.2.1) h2
        refine ⟨hf.trans hf2, by simp [hl2], fun i y' v' h3 h4 => ?_⟩
        cases i with
        | zero => simp at h3 h4; subst h3 h4; exact hy.mono hf2.2.1.stay
        | succ i => exact hy2 i y' v' (by simpa using h3) (by simpa using h4)

theorem cellF_not_tup {M M' : List MO} {x : AV} {y : IV} (h : cellF M x = some (y, M')) : ∀ vs, y ≠ .tup vs := by
  rintro vs rfl
  cases x with
  | iv x => cases x <;> simp [cellF] at h
  | msl k off len n =>
    simp only [cellF] at h
    cases hr : rowAt M k n with
    | none => rw [hr] at h; cases h
    | some q => obtain ⟨m, T, sz, xs⟩ := q; rw [hr] at h; simp only [Option.bind_some] at h; split at h <;> cases h
  | _ => simp [cellF] at h

theorem toIVF_sound (hm : MemOk X O w0 M ρ w) {x : AV} {y : IV} {M' : List MO} {v : Value} (hx : RepA M ρ (excl X M ρ) w x v) (h : toIVF M x = some (y, M')) : FreezeOk X O w0 M ρ w M' ∧ RepI (excl X M' ρ) w y v ∧ ∀ vs, y ≠ .tup vs := by
  unfold toIVF at h
  split at h
  · cases h
  · rename_i x' hne
    cases h
    cases hx with | iv _ _ hx => exact ⟨⟨hm, Evo.refl _ _ _ _, rfl⟩, hx, fun vs e => hne vs (by rw [e])⟩
  · rename_i cs
    cases h1 : cellsF M cs with
    | none => rw [h1] at h; cases h
    | some q =>
      obtain ⟨ys, M1⟩ := q
      rw [h1] at h; cases h
      obtain ⟨vs, rfl, hl, hc⟩ := inv_agg hx
      obtain ⟨hf, hl2, hy⟩ := cellsF_sound cs hm vs.toList (by simpa using hl) (fun i x v h3 h4 => hc i x v h3 (by simpa using h4)) h1
      refine ⟨hf, .agg _ _ (by omega) (fun i y z h3 h4 => hy i y z h3 (by simpa using h4)), by simp⟩
  · obtain ⟨h1, h2⟩ := cellF_sound hm hx h
    exact ⟨h1, h2, cellF_not_tup h⟩

theorem putElem_spec {sz c : Nat} {x y z : IV} (h : putElem sz x c y = some z) (hx : x.fits sz = true) (hy : ∀ vs, y ≠ .tup vs) :
    z.fits sz = true ∧ c + y.cells.length ≤ sz ∧ y.cells.all IV.one = true ∧ ∀ p, z.cells[p]? = if c ≤ p ∧ p < c + y.cells.length then y.cells[p - c]? else x.cells[p]? := by
  unfold putElem at h
  split at h
  · rename_i hc
    obtain ⟨rfl, hf⟩ := hc
    cases h
    have hl := IV.fits_len hf
    have hl2 := IV.fits_len hx
    refine ⟨hf, by omega, by simp [IV.fits] at hf ⊢; exact hf.2, fun p => ?_⟩
    by_cases hp : p < y.cells.length
    · rw [if_pos (by omega), Nat.sub_zero]
    · rw [if_neg (by omega), List.getElem?_eq_none (by omega), List.getElem?_eq_none (by omega)]
  · split at h
    · rename_i cs
      split at h
      · rename_i hc
        obtain ⟨h1, h2⟩ := hc
        cases h
        have hl : cs.length = sz := IV.fits_len hx
        have hall : ∀ z ∈ cs, z.one = true := by simp [IV.fits, IV.cells] at hx; exact hx.2
        refine ⟨?_, by omega, h2, fun p => setCells_get _ _ _ h1 p⟩
        show ((setCells cs c y.cells).length == sz && (setCells cs c y.cells).all IV.one) = true
        simp only [Bool.and_eq_true, beq_iff_eq, List.all_eq_true]
        refine ⟨by rw [setCells_length _ _ _ h1]; exact hl, fun z hz => ?_⟩
        obtain ⟨i, hi⟩ := List.getElem?_of_mem hz
        rw [setCells_get _ _ _ h1] at hi
        split at hi
        · simp at h2; exact h2 z (List.mem_of_getElem? hi)
        · exact hall z (List.mem_of_getElem? hi)
      · cases h
    · cases h

theorem cellsI_one {y : IV} {v : Value} (h : RepI E w y v) (ht : ∀ vs, y ≠ .tup vs) (h1 : y.cells.all IV.one = true) : ∀ u ∈ v.cells.toList, u.oneCell' = true := by
  obtain ⟨h2, h3⟩ := rep_cellsI h ht
  intro u hu
  obtain ⟨i, hi⟩ := List.getElem?_of_mem hu
  rw [Array.getElem?_toList] at hi
  have hlt : i < y.cells.length := by rw [← h2]; exact (Array.getElem?_eq_some_iff.1 hi).1
  have hy := List.getElem?_eq_getElem hlt
  exact oneCell_of_one (h3 i _ u hy hi) (by simp at h1; exact h1 _ (List.mem_of_getElem? hy))

/-- A row is written in its own block. -/
theorem step_writerow (hm : MemOk X O w0 M ρ w) {k b : Nat} {T : TypeId} {sz : Nat} {xs xs' : List IV} (hM : M[k]? = some (.row true T sz xs)) (hb : ρ k = some b) (hl : xs.length ≤ xs'.length)
    {w' : World} (hw : Wrote w w' b) {arr' : Array Value} {fz : Nat × Nat} (hh : w'.heap[b]? = some (.cells arr' T fz)) (hsame : ∀ arr fz', w.heap[b]? = some (.cells arr T fz') → fz = fz' ∧ arr'.size = arr.size)
    (hle : xs'.length * sz ≤ arr'.size) (hf : ∀ (i : Nat) (x : IV), xs'[i]? = some x → x.fits sz = true)
    (hc : ∀ (i : Nat) (x : IV) (j : Nat) (y : IV), xs'[i]? = some x → x.cells[j]? = some y → ∃ u, arr'[i * sz + j]? = some u ∧ RepI (excl X M ρ) w y u) :
    MemOk X O w0 (M.set k (.row true T sz xs')) ρ w' ∧ Evo M (M.set k (.row true T sz xs')) ρ ρ (excl X M ρ) (excl X (M.set k (.row true T sz xs')) ρ) w w' := by
  have hlt := lt_of_get hM
  have hev := Evo.set (X := X) k b _ (.row true T sz xs') hM hb rfl hw ⟨rfl, rfl, hl, fun arr fz' ha => ⟨arr', fz, hh, Nat.le_of_eq (hsame arr fz' ha).2.symm⟩⟩ (hm.other hlt hb)
  refine ⟨hm.set k b _ _ hM hb hw hev ⟨hf, ?_⟩, hev⟩
  rw [hb]
  obtain ⟨_, arr, fz', g1, g2, g3, g4⟩ := row_cell hm hM hb
  obtain ⟨rfl, hs⟩ := hsame arr fz' g1
  refine ⟨arr', fz, hh, fun i hi => g2 i (by omega), hle, fun i x j y hx hy => ?_⟩
  obtain ⟨u, h1, h2⟩ := hc i x j y hx hy
  exact ⟨u, h1, h2.mono hev.stay⟩

theorem idx_split {i i' j j' sz : Nat} (hj : j < sz) (hj' : j' < sz) (h : i * sz + j = i' * sz + j') : i = i' ∧ j = j' := by
  have h1 : (i * sz + j) / sz = i := by rw [Nat.mul_comm, Nat.mul_add_div (by omega), Nat.div_eq_of_lt hj, Nat.add_zero]
  have h2 : (i' * sz + j') / sz = i' := by rw [Nat.mul_comm, Nat.mul_add_div (by omega), Nat.div_eq_of_lt hj', Nat.add_zero]
  have : i = i' := by rw [← h1, ← h2, h]
  subst this
  exact ⟨rfl, by omega⟩

theorem block_le {i n sz j : Nat} (hi : i < n) (hj : j < sz) : i * sz + j < n * sz :=
  Nat.lt_of_lt_of_le (by omega : i * sz + j < i * sz + sz) (by rw [← Nat.succ_mul]; exact Nat.mul_le_mul_right _ hi)

/-- A store into an element of a row. -/
theorem step_storerow (hm : MemOk X O w0 M ρ w) {t : TypeId} {n : Nat} (ht : tSize P t = some n) {k m i c : Nat} {T : TypeId} {sz : Nat} {xs : List IV} {x : AV} {y old z : IV} {M' : List MO} {av xv : Value}
    (ha : RepA M ρ (excl X M ρ) w (.rp k m i c) av) (hx : RepA M ρ (excl X M ρ) w x xv) (hf : toIVF M x = some (y, M')) (hM : M'[k]? = some (.row true T sz xs)) (hm' : m = xs.length) (hn : y.cells.length = n)
    (hold : xs[i]? = some old) (hz : putElem sz old c y = some z) :
    StepOk P X O w0 M ρ w .any (M'.set k (.row true T sz (xs.set i z))) ((do Instr.storeAt t av xv; pure Next.skip : Sem Next).run P w) := by
  obtain ⟨hfr, hy, hnt⟩ := toIVF_sound hm hx hf
  have ha' := ha.mono hfr.2.1
  have hmm := hfr.1
  obtain ⟨b, hb, rfl⟩ := rp_spec ha' hM hm'
  obtain ⟨hfit, arr, fz, h3, h4, h5, h6⟩ := row_cell hmm hM hb
  obtain ⟨z1, z2, z3, z4⟩ := putElem_spec hz (hfit i old hold) hnt
  obtain ⟨hc1, hc2⟩ := rep_cellsI hy hnt
  have hi := lt_of_get hold
  have hbl : i * sz + sz ≤ arr.size := Nat.le_trans (by rw [← Nat.succ_mul]; exact Nat.mul_le_mul_right _ hi) h5
  obtain ⟨w', hr, hw, arr', hh, hs, hp⟩ := run_storeCells (P := P) b (i * sz + c) xv.cells.toList 0 w arr h3 h4 (by simp; omega) (cellsI_one hy hnt z3)
  have hlen : (xs.set i z).length = xs.length := by simp
  obtain ⟨hm2, hev⟩ := step_writerow hmm hM hb (xs' := xs.set i z) (by omega) hw hh (fun arr2 fz2 h2 => by rw [h3] at h2; cases h2; exact ⟨rfl, hs⟩) (by rw [hlen]; omega)
    (fun i' x' hx' => by
      by_cases e : i' = i
      · subst e; rw [List.getElem?_set_self hi] at hx'; cases hx'; exact z1
      · rw [List.getElem?_set_ne (Ne.symm e)] at hx'; exact hfit i' x' hx')
    (fun i' x' j q hx' hq => by
      rw [hp]
      simp only [Nat.add_zero, Array.length_toList, Array.getElem?_toList, hc1]
      by_cases e : i' = i
      · subst e
        rw [List.getElem?_set_self hi] at hx'; cases hx'
        rw [z4] at hq
        split at hq
        · rename_i hin
          rw [if_pos (by omega), show i' * sz + j - (i' * sz + c) = j - c from by omega]
          have hlt : j - c < xv.cells.size := by rw [hc1]; omega
          exact ⟨_, Array.getElem?_eq_getElem hlt, hc2 _ q _ hq (Array.getElem?_eq_getElem hlt)⟩
        · rename_i hin
          rw [if_neg (by omega)]
          exact h6 i' old j q hold hq
      · rw [List.getElem?_set_ne (Ne.symm e)] at hx'
        have hj : j < sz := by have := lt_of_get hq; rw [IV.fits_len (hfit i' x' hx')] at this; exact this
        rw [if_neg ?_]
        · exact h6 i' x' j q hx' hq
        · rintro ⟨h7, h8⟩
          have hcj : i' * sz + j - i * sz < sz := by omega
          have := idx_split (i := i') (i' := i) (j := j) (j' := i' * sz + j - i * sz) hj hcj (by omega)
          exact e this.1)
  exact ⟨_, _, w', ρ, urun (run_storeVar ht (by omega) hr), .inr ⟨rfl, rfl⟩, .any _, hm2, hfr.2.1.trans hev⟩

end
end Go.Proofs.Ytebegdnebjjnmaa.AM
