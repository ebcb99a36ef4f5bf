
/- The abstract machine, 10: append, copy, make, literals. No condition. -/
import Derived.Test.YtebegdnebjjnmaaA9
set_option linter.unusedVariables false
set_option linter.unusedSimpArgs false
namespace Go.Proofs.Ytebegdnebjjnmaa.AM
open Go Go.RowKit

section
variable {P : Program} {X O : Nat → Prop} {w0 : World} {M : List MO} {ρ : Nat → Option Nat} {E : Nat → Prop} {w : World}

/-- The second argument's type is no number. -/
def NotInt (P : Program) (t : TypeId) : Prop := ∃ d, P.underlying t = some d ∧ ∀ k, d ≠ .int k

theorem notInt_slc {t : TypeId} (h : tKind P t = some .slc) : NotInt P t := by obtain ⟨e, he⟩ := tKind_slc h; exact ⟨_, he, by simp⟩
theorem notInt_str {t : TypeId} (h : tKind P t = some .str) : NotInt P t := ⟨_, tKind_str h, by simp⟩

theorem notInt_match {d : TypeDesc} (h : ∀ k, d ≠ .int k) : (match d with | .int k => true | _ => false) = false := by
  cases d <;> first | rfl | exact absurd rfl (h _)

theorem run_append_room2 {ts : Array TypeId} {t t2 ty : TypeId} {e : Elem} (ht : tElem P t = some e) (h0 : ts[0]? = some t) (h1 : ts[1]? = some t2) (h2 : NotInt P t2) {A : Option Addr} {sLen cap n : Nat} {x : Value} {news : Array Value} {w' : World}
    (hlen : (Builtin.lenOf x).run P w = .ok n w) (hcells : (Builtin.firstCells e.sz n x).run P w = .ok news w) (hroom : sLen + n ≤ cap)
    (hst : match A with | some a => (storeCells (a.add (sLen * e.sz)) news.toList).run P w = .ok () w' | none => w' = w) :
    (Builtin.append_ ts ty #[.slice A sLen cap, x]).run P w = .ok (.slice A (sLen + n) cap) w' := by
  obtain ⟨h3, i, hi, hs, _⟩ := tElem_spec ht
  obtain ⟨d, hd, hne⟩ := h2
  have hm := notInt_match hne
  cases A with
  | none => simp only at hst; subst hst; simp [Builtin.append_, h0, h1, run_underlying h3, run_underlying hd, hm, run_sizeOf hi, hs, hlen, hcells, hroom]
  | some a => simp only at hst; simp [Builtin.append_, h0, h1, run_underlying h3, run_underlying hd, hm, run_sizeOf hi, hs, hlen, hcells, hroom, hst]

theorem run_append_grow2 {ts : Array TypeId} {t t2 ty : TypeId} {e : Elem} (ht : tElem P t = some e) (h0 : ts[0]? = some t) (h1 : ts[1]? = some t2) (h2 : NotInt P t2) {A : Option Addr} {sLen cap n : Nat} {x : Value} {olds news : Array Value}
    (hlen : (Builtin.lenOf x).run P w = .ok n w) (hcells : (Builtin.firstCells e.sz n x).run P w.drew = .ok news w.drew) (hold : (Builtin.firstCells e.sz sLen (.slice A sLen cap)).run P w.drew = .ok olds w.drew) (hroom : cap < sLen + n)
    (hb : (sLen + n) * e.bytes ≤ 140737488355328) :
    ∃ c, sLen + n ≤ c ∧ (Builtin.append_ ts ty #[.slice A sLen cap, x]).run P w = .ok (.slice (some ⟨w.heap.size, 0, none⟩) (sLen + n) c)
      (w.drew.alloc (.cells (olds ++ news ++ Builtin.zeroCells e.zero.cells (c - (sLen + n))) e.T)) := by
  obtain ⟨h3, i, hi, hs, hby, hz, _, _, hpos⟩ := tElem_spec ht
  obtain ⟨d, hd, hne⟩ := h2
  have hm := notInt_match hne
  refine ⟨grownCap w (sLen + n) cap e.T, grownCap_ge _ _ _ _, ?_⟩
  have hn : ¬ (sLen + n ≤ cap) := by omega
  have hfit := growslice_fits (bytes := e.bytes) hroom hb
  have h48 : ¬ (281474976710656 < Builtin.nextslicecap (sLen + n) cap * e.bytes) := by omega
  have hb0 : e.bytes ≠ 0 := by omega
  simp only [Builtin.append_, h0, h1]
  simp [run_underlying h3, run_underlying hd, hm, run_sizeOf hi, hs, hlen, hcells, hn, hold, run_typeInfo hi, hby, h48, hb0, run_zeroValue hi hz, Question.forced, newRow, grownCap]


theorem cells_append {sz : Nat} {xs ys : List IV} {olds news : List Value} {rest : Array Value} (hl1 : olds.length = xs.length * sz) (hl2 : news.length = ys.length * sz)
    (hf2 : ∀ (i : Nat) (x : IV), ys[i]? = some x → x.fits sz = true) (hf1 : ∀ (i : Nat) (x : IV), xs[i]? = some x → x.fits sz = true)
    (h1 : ∀ (i : Nat) (x : IV) (j : Nat) (y : IV), xs[i]? = some x → x.cells[j]? = some y → ∃ u, olds[i * sz + j]? = some u ∧ RepI E w y u)
    (h2 : ∀ (i : Nat) (x : IV) (j : Nat) (y : IV), ys[i]? = some x → x.cells[j]? = some y → ∃ u, news[i * sz + j]? = some u ∧ RepI E w y u) :
    ∀ (i : Nat) (x : IV) (j : Nat) (y : IV), (xs ++ ys)[i]? = some x → x.cells[j]? = some y → ∃ u, (olds.toArray ++ news.toArray ++ rest)[i * sz + j]? = some u ∧ RepI E w y u := by
  intro i x j y hx hy
  by_cases hi : i < xs.length
  · rw [List.getElem?_append_left hi] at hx
    obtain ⟨u, hu, hr⟩ := h1 i x j y hx hy
    refine ⟨u, ?_, hr⟩
    have hlt := lt_of_get hu
    rw [Array.append_assoc, Array.getElem?_append_left (by simpa using hlt)]
    simpa using hu
  · rw [List.getElem?_append_right (by omega)] at hx
    obtain ⟨u, hu, hr⟩ := h2 _ x j y hx hy
    refine ⟨u, ?_, hr⟩
    have hlt := lt_of_get hu
    have e : i * sz + j = olds.length + ((i - xs.length) * sz + j) := by
      rw [hl1, ← Nat.add_assoc, ← Nat.add_mul]
      congr 2; omega
    rw [e, Array.getElem?_append_left (by simp; omega), Array.getElem?_append_right (by simp)]
    simpa using hu

theorem fits_append {sz : Nat} {xs ys : List IV} (h1 : ∀ (i : Nat) (x : IV), xs[i]? = some x → x.fits sz = true) (h2 : ∀ (i : Nat) (x : IV), ys[i]? = some x → x.fits sz = true) :
    ∀ (i : Nat) (x : IV), (xs ++ ys)[i]? = some x → x.fits sz = true := by
  intro i x hx
  by_cases hi : i < xs.length
  · rw [List.getElem?_append_left hi] at hx; exact h1 i x hx
  · rw [List.getElem?_append_right (by omega)] at hx; exact h2 _ x hx

/-- What append leaves. -/
theorem step_append (hm : MemOk X O w0 M ρ w) {ts : Array TypeId} {t t2 ty : TypeId} {e : Elem} (ht : tElem P t = some e) (h0 : ts[0]? = some t) (h1 : ts[1]? = some t2) (h2 : NotInt P t2) {s x v : AV} {M' : List MO} {sv xv : Value}
    (hs : RepA M ρ (excl X M ρ) w s sv) (hx : RepA M ρ (excl X M ρ) w x xv) (h : appendAV M e s x = some (v, M')) :
    StepOk P X O w0 M ρ w v M' ((do pure (Next.value (← Builtin.append_ ts ty #[sv, xv])) : Sem Next).run P w) := by
  obtain ⟨h3, i, hi, his, hby, hz, hzs, hsz, hpos⟩ := tElem_spec ht
  unfold appendAV at h
  split at h
  · -- to none
    cases hys : elems M e.sz x with
    | none => rw [hys] at h; cases h
    | some ys =>
      rw [hys] at h
      simp only [Option.bind_some] at h
      split at h
      · rename_i hb
        cases h
        obtain ⟨A, rfl⟩ := inv_nilsl hs
        obtain ⟨hf, hlen, news, hl, hone, hrep, hcells⟩ := elems_sound (P := P) hm hx hys
        have hall : ∀ w', w'.heap = w.heap → (Builtin.firstCells e.sz ys.length xv).run P w' = .ok news.toArray w' := fun w' hw' => by
          have := hcells ys.length w' hw' (Nat.le_refl _)
          rwa [List.take_of_length_le (by omega)] at this
        by_cases hn : ys.length = 0
        · have : ys = [] := List.eq_nil_of_length_eq_zero hn
          subst this
          have hnews : news = [] := List.eq_nil_of_length_eq_zero (by simpa using hl)
          subst hnews
          refine step_nilrow hm e.T e.sz (A := A) ?_
          rw [vrun (run_append_room2 (P := P) (w := w) (w' := w) (A := A) (sLen := 0) (cap := 0) ht h0 h1 h2 (hlen w) (hall w rfl) (Nat.le_refl _) (by cases A <;> simp [storeCells]))]
          rfl
        · obtain ⟨c, hc, hr⟩ := run_append_grow2 (P := P) (w := w) (A := A) (sLen := 0) (cap := 0) (olds := #[]) (ty := ty) ht h0 h1 h2 (hlen w) (hall w.drew rfl) (by cases A <;> simp [Builtin.firstCells, loadCells, loadCellsFrom]) (by omega) (by simpa using hb)
          simp only [Nat.zero_add] at hr hc
          refine step_newrow hm e.T (cap := c) hc ?_ hf ?_ (w' := w.drew.alloc _) ⟨rfl, rfl, rfl, rfl⟩ (vrun hr)
          · simp only [Array.size_append, List.size_toArray, size_zeroCells, hzs, hl, Array.size_empty, List.length_nil, Nat.zero_add, ← Nat.add_mul]
            rw [show ys.length + (c - ys.length) = c from by omega]
            exact Nat.le_refl _
          · exact cells_append (xs := []) (olds := []) (by simp) hl hf (by simp) (by simp) hrep
      · cases h
  · -- to a row of the call's own
    rename_i k off len n
    cases hys : elems M e.sz x with
    | none => rw [hys] at h; cases h
    | some ys =>
      rw [hys] at h
      simp only [Option.bind_some] at h
      split at h
      · rename_i T sz xs hM
        split at h
        · rename_i hc'
          obtain ⟨rfl, rfl, rfl, rfl, rfl, hb⟩ := hc'
          cases h
          obtain ⟨g1, A, cap, rfl, hlc, g2⟩ := msl_spec hs hM rfl
          obtain ⟨hf, hlen, news, hl, hone, hrep, hcells⟩ := elems_sound (P := P) hm hx hys
          have hall : ∀ w', w'.heap = w.heap → (Builtin.firstCells e.sz ys.length xv).run P w' = .ok news.toArray w' := fun w' hw' => by
            have := hcells ys.length w' hw' (Nat.le_refl _)
            rwa [List.take_of_length_le (by omega)] at this
          have hfx := row_fits hm hM
          by_cases hn : ys.length = 0
          · -- nothing is added
            have : ys = [] := List.eq_nil_of_length_eq_zero hn
            subst this
            have hnews : news = [] := List.eq_nil_of_length_eq_zero (by simpa using hl)
            subst hnews
            have hset : M.set k (.row true e.T e.sz (xs ++ [])) = M := by
              rw [List.append_nil]
              apply List.ext_getElem?
              intro j
              by_cases hj : j = k
              · subst hj; rw [List.getElem?_set_self (lt_of_get hM), hM]
              · rw [List.getElem?_set_ne (Ne.symm hj)]
            rw [hset]
            simp only [List.length_nil, Nat.add_zero]
            have hrr := run_append_room2 (P := P) (w := w) (w' := w) (A := A) (sLen := xs.length) (cap := cap) (ty := ty) ht h0 h1 h2 (hlen w) (hall w rfl) (by simpa using hlc) (by cases A <;> simp [storeCells])
            exact StepOk.same hm (vrun hrr) hs
          · by_cases hroom : xs.length + ys.length ≤ cap
            · -- in place
              cases hk : ρ k with
              | none => rw [hk] at g2; omega
              | some b =>
                rw [hk] at g2
                obtain ⟨g3, arr, fz, g4, g5⟩ := g2
                have hA := g3 (by omega)
                subst hA
                obtain ⟨_, arr2, fz2, g6, g7, g8, g9⟩ := row_cell hm hM hk
                rw [g4] at g6; cases g6
                simp only [Nat.zero_mul, Nat.zero_add] at g5
                have hfit : xs.length * e.sz + news.length ≤ arr.size := by rw [hl, ← Nat.add_mul]; exact Nat.le_trans (Nat.mul_le_mul_right _ hroom) g5
                obtain ⟨w', hr, hw, arr', hh, hsz', hp⟩ := run_storeCells (P := P) b (xs.length * e.sz) news 0 w arr g4 g7 (by omega) hone
                have hrr := run_append_room2 (P := P) (w := w) (w' := w') (A := some ⟨b, 0 * e.sz, none⟩) (sLen := xs.length) (cap := cap) (ty := ty) ht h0 h1 h2 (hlen w) (hall w rfl) hroom (by simpa [Addr.add_lit] using hr)
                obtain ⟨hm2, hev⟩ := step_writerow hm hM hk (xs' := xs ++ ys) (by simp) hw hh (fun arr3 fz3 h3' => by rw [g4] at h3'; cases h3'; exact ⟨rfl, hsz'⟩)
                  (by rw [List.length_append, Nat.add_mul, hsz', ← hl]; exact hfit) (fits_append hfx hf)
                  (fun i x j y hx' hy => by
                    rw [hp]
                    simp only [Nat.add_zero]
                    by_cases hin : i < xs.length
                    · rw [List.getElem?_append_left hin] at hx'
                      have hj : j < e.sz := by have := lt_of_get hy; rw [IV.fits_len (hfx i x hx')] at this; exact this
                      have := block_le hin hj
                      rw [if_neg (by omega)]
                      exact g9 i x j y hx' hy
                    · rw [List.getElem?_append_right (by omega)] at hx'
                      obtain ⟨u, hu, hr'⟩ := hrep _ x j y hx' hy
                      have hlt := lt_of_get hu
                      have e1 : i * e.sz + j = xs.length * e.sz + ((i - xs.length) * e.sz + j) := by
                        rw [← Nat.add_assoc, ← Nat.add_mul]; congr 2; omega
                      rw [e1, if_pos (by omega), Nat.add_sub_cancel_left]
                      exact ⟨u, hu, hr'⟩)
                refine ⟨_, _, w', ρ, vrun hrr, .inl rfl, ?_, hm2, hev⟩
                refine .msl k 0 _ _ _ true e.T e.sz (xs ++ ys) (List.getElem?_set_self (lt_of_get hM)) (by simp) ⟨_, _, _, rfl⟩ (fun _ => ⟨by omega, _, cap, rfl, hroom, ?_⟩)
                rw [hk]
                exact ⟨fun _ => rfl, arr', fz, hh, by rw [hsz']; simpa using g5⟩
            · -- to a new block
              have holds : ∃ olds : List Value, olds.length = xs.length * e.sz ∧ (Builtin.firstCells e.sz xs.length (.slice A xs.length cap)).run P w.drew = .ok olds.toArray w.drew ∧
                  ∀ (i : Nat) (x : IV) (j : Nat) (y : IV), xs[i]? = some x → x.cells[j]? = some y → ∃ u, olds[i * e.sz + j]? = some u ∧ RepI (excl X M ρ) w y u := by
                have hxe : elems M e.sz (.msl k 0 xs.length xs.length) = some xs := by simp [elems, rowAt, hM]
                obtain ⟨_, _, olds, o1, _, o3, o4⟩ := elems_sound hm hs hxe
                refine ⟨olds, o1, ?_, o3⟩
                have := o4 xs.length w.drew rfl (Nat.le_refl _)
                rwa [List.take_of_length_le (by omega)] at this
              obtain ⟨olds, o1, o2, o3⟩ := holds
              obtain ⟨c, hc, hr⟩ := run_append_grow2 (P := P) (w := w) (A := A) (sLen := xs.length) (cap := cap) (ty := ty) ht h0 h1 h2 (hlen w) (hall w.drew rfl) o2 (by omega) hb
              have hn' : News w (w.drew.alloc (.cells (olds.toArray ++ news.toArray ++ Builtin.zeroCells e.zero.cells (c - (xs.length + ys.length))) e.T)) (.cells (olds.toArray ++ news.toArray ++ Builtin.zeroCells e.zero.cells (c - (xs.length + ys.length))) e.T) := ⟨rfl, rfl, rfl, rfl⟩
              have hev := Evo.moved (X := X) (ρ := ρ) k e.T e.sz xs (xs ++ ys) _ hM (by rw [List.length_append]; omega) hn'
              have hcl := cells_append (E := excl X M ρ) (w := w) (rest := Builtin.zeroCells e.zero.cells (c - (xs.length + ys.length))) o1 hl hf hfx o3 hrep
              have hsize : c * e.sz ≤ (olds.toArray ++ news.toArray ++ Builtin.zeroCells e.zero.cells (c - (xs.length + ys.length))).size := by
                simp only [Array.size_append, List.size_toArray, size_zeroCells, hzs, hl, o1, ← Nat.add_mul]
                rw [show xs.length + ys.length + (c - (xs.length + ys.length)) = c from by omega]
                exact Nat.le_refl _
              refine ⟨_, _, _, _, vrun hr, .inl rfl, ?_, hm.moved k e.T e.sz xs (xs ++ ys) _ hM (by rw [List.length_append]; omega) hn' ⟨fits_append hfx hf, ?_⟩, hev⟩
              · refine .msl k 0 _ _ _ true e.T e.sz (xs ++ ys) (List.getElem?_set_self (lt_of_get hM)) (by simp) ⟨_, _, _, rfl⟩ (fun _ => ⟨by omega, _, c, rfl, hc, ?_⟩)
                rw [updρ_same]
                exact ⟨fun _ => by simp, _, _, hn'.new, by simpa using hsize⟩
              · rw [updρ_same]
                refine ⟨_, _, hn'.new, unfrozen0 _, Nat.le_trans (by rw [List.length_append]; exact Nat.mul_le_mul_right _ hc) hsize, fun i x j y hx' hy => ?_⟩
                obtain ⟨u, hu, hr'⟩ := hcl i x j y hx' hy
                exact ⟨u, hu, hr'.mono hev.stay⟩
        · cases h
      · cases h
  · cases h

end
end Go.Proofs.Ytebegdnebjjnmaa.AM
