
/- The abstract machine, 8: new objects, and stores. No condition. -/
import Derived.Test.YtebegdnebjjnmaaA7
set_option linter.unusedVariables false
set_option linter.unusedSimpArgs false
namespace Go.Proofs.Ytebegdnebjjnmaa.AM
open Go Go.RowKit

section
variable {P : Program} {X O : Nat → Prop} {w0 : World} {M : List MO} {ρ : Nat → Option Nat} {E : Nat → Prop} {w : World}

theorem Evo.refl (M : List MO) (ρ : Nat → Option Nat) (E : Nat → Prop) (w : World) : Evo M M ρ ρ E E w w := Evo.world (Nat.le_refl _) (fun _ _ => rfl)

theorem Evo.trans {M M' M'' : List MO} {ρ ρ' ρ'' : Nat → Option Nat} {E E' E'' : Nat → Prop} {w w' w'' : World} (h : Evo M M' ρ ρ' E E' w w') (k : Evo M' M'' ρ' ρ'' E' E'' w' w'') : Evo M M'' ρ ρ'' E E'' w w'' where
  stay := h.stay.trans k.stay
  var i T cs hi := by
    obtain ⟨cs', h1, h2⟩ := h.var i T cs hi
    obtain ⟨cs'', h3, h4⟩ := k.var i T cs' h1
    exact ⟨cs'', h3, h4.trans h2⟩
  row i m T sz xs hi := by
    obtain ⟨m', xs', h1, h2, h3⟩ := h.row i m T sz xs hi
    obtain ⟨m'', xs'', h4, h5, h6⟩ := k.row i m' T sz xs' h1
    refine ⟨m'', xs'', h4, Nat.le_trans h2 h5, fun e => ?_⟩
    obtain ⟨g1, g2⟩ := h3 (by omega)
    obtain ⟨g3, g4⟩ := h6 (by omega)
    refine ⟨g3.trans g1, fun b arr fz hb ha => ?_⟩
    obtain ⟨arr', fz', g5, g6⟩ := g2 b arr fz hb ha
    obtain ⟨arr'', fz'', g7, g8⟩ := g4 b arr' fz' (g1.trans hb) g5
    exact ⟨arr'', fz'', g7, Nat.le_trans g6 g8⟩

/-- What an operation leaves. -/
def StepOk (P : Program) (X O : Nat → Prop) (w0 : World) (M : List MO) (ρ : Nat → Option Nat) (w : World) (v : AV) (M' : List MO) (r : Result Next) : Prop :=
  ∃ nx u w' ρ', r = .ok nx w' ∧ (nx = .value u ∨ (nx = .skip ∧ u = undef)) ∧ RepA M' ρ' (excl X M' ρ') w' v u ∧ MemOk X O w0 M' ρ' w' ∧ Evo M M' ρ ρ' (excl X M ρ) (excl X M' ρ') w w'

theorem StepOk.same (hm : MemOk X O w0 M ρ w) {v : AV} {u : Value} {r : Result Next} (hr : r = .ok (.value u) w) (hv : RepA M ρ (excl X M ρ) w v u) : StepOk P X O w0 M ρ w v M r :=
  ⟨_, u, w, ρ, hr, .inl rfl, hv, hm, Evo.refl _ _ _ _⟩

theorem News.alloc (w : World) (o : Obj) : News w (w.alloc o) o := ⟨rfl, rfl, rfl, rfl⟩

theorem unfrozen0 (arr : Array Value) : Unfrozen arr (0, 0) := fun i hi => by simp

/-- A new variable. -/
theorem step_newvar (hm : MemOk X O w0 M ρ w) (T : TypeId) {cs : List AV} {arr : Array Value} (hl : arr.size = cs.length)
    (hc : ∀ (i : Nat) (y : AV) (u : Value), cs[i]? = some y → arr[i]? = some u → RepA M ρ (excl X M ρ) w y u) {w' : World} (hn : News w w' (.cells arr T (0, 0))) {r : Result Next}
    (hr : r = .ok (.value (.pointer (some ⟨w.heap.size, 0, none⟩))) w') : StepOk P X O w0 M ρ w (.mp M.length 0) (M ++ [.var T cs]) r := by
  have hev := Evo.push (X := X) (M := M) (ρ := ρ) (w := w) (w' := w') (.var T cs) (some w.heap.size) (by rw [hn.size]; omega) (fun j hj => hn.old hj) (fun x hx => by cases hx; exact Nat.le_refl _)
  have hobj : ObjRep (M ++ [.var T cs]) (updρ ρ M.length (some w.heap.size)) (excl X (M ++ [.var T cs]) (updρ ρ M.length (some w.heap.size))) w' M.length (.var T cs) :=
    ⟨w.heap.size, arr, (0, 0), updρ_same _ _ _, hn.new, unfrozen0 _, hl, fun i y u hy hu => (hc i y u hy hu).mono hev⟩
  exact ⟨_, _, w', _, hr, .inl rfl, .mp _ _ T cs w.heap.size (by simp) (updρ_same _ _ _), hm.push _ _ (hn.keep hm.keep) (by rw [hn.size]; omega) (fun j hj => hn.old hj) (fun x hx => by cases hx; exact Nat.le_refl _) hobj, hev⟩

/-- A new row. -/
theorem step_newrow (hm : MemOk X O w0 M ρ w) (T : TypeId) {sz : Nat} {xs : List IV} {arr : Array Value} {cap : Nat} (hcap : xs.length ≤ cap) (hsz : cap * sz ≤ arr.size) (hf : ∀ (i : Nat) (x : IV), xs[i]? = some x → x.fits sz = true)
    (hc : ∀ (i : Nat) (x : IV) (j : Nat) (y : IV), xs[i]? = some x → x.cells[j]? = some y → ∃ u, arr[i * sz + j]? = some u ∧ RepI (excl X M ρ) w y u) {w' : World} (hn : News w w' (.cells arr T (0, 0))) {r : Result Next}
    (hr : r = .ok (.value (.slice (some ⟨w.heap.size, 0, none⟩) xs.length cap)) w') : StepOk P X O w0 M ρ w (.msl M.length 0 xs.length xs.length) (M ++ [.row true T sz xs]) r := by
  have hev := Evo.push (X := X) (M := M) (ρ := ρ) (w := w) (w' := w') (.row true T sz xs) (some w.heap.size) (by rw [hn.size]; omega) (fun j hj => hn.old hj) (fun x hx => by cases hx; exact Nat.le_refl _)
  have hle : xs.length * sz ≤ arr.size := Nat.le_trans (Nat.mul_le_mul_right _ hcap) hsz
  have hobj : ObjRep (M ++ [.row true T sz xs]) (updρ ρ M.length (some w.heap.size)) (excl X (M ++ [.row true T sz xs]) (updρ ρ M.length (some w.heap.size))) w' M.length (.row true T sz xs) := by
    refine ⟨hf, ?_⟩
    rw [updρ_same]
    exact ⟨arr, (0, 0), hn.new, unfrozen0 _, hle, fun i x j y hx hy => by obtain ⟨u, h1, h2⟩ := hc i x j y hx hy; exact ⟨u, h1, h2.mono hev.stay⟩⟩
  refine ⟨_, _, w', _, hr, .inl rfl, .msl _ _ _ _ _ true T sz xs (by simp) (Nat.le_refl _) ⟨_, _, _, rfl⟩ (fun _ => ⟨by omega, _, cap, rfl, hcap, ?_⟩),
    hm.push _ _ (hn.keep hm.keep) (by rw [hn.size]; omega) (fun j hj => hn.old hj) (fun x hx => by cases hx; exact Nat.le_refl _) hobj, hev⟩
  rw [updρ_same]
  exact ⟨fun _ => by simp, arr, (0, 0), hn.new, by simpa using hsz⟩

/-- An empty row without a block. -/
theorem step_nilrow (hm : MemOk X O w0 M ρ w) (T sz : Nat) {A : Option Addr} {r : Result Next} (hr : r = .ok (.value (.slice A 0 0)) w) : StepOk P X O w0 M ρ w (.msl M.length 0 0 0) (M ++ [.row true T sz []]) r := by
  have hev := Evo.push (X := X) (M := M) (ρ := ρ) (w := w) (w' := w) (.row true T sz []) none (Nat.le_refl _) (fun j hj => rfl) (fun x hx => by cases hx)
  have hobj : ObjRep (M ++ [.row true T sz []]) (updρ ρ M.length none) (excl X (M ++ [.row true T sz []]) (updρ ρ M.length none)) w M.length (.row true T sz []) := by
    refine ⟨by simp, ?_⟩
    rw [updρ_same]
  refine ⟨_, _, w, _, hr, .inl rfl, .msl _ _ _ _ _ true T sz [] (by simp) (Nat.le_refl _) ⟨_, _, _, rfl⟩ (fun _ => ⟨by omega, A, 0, rfl, by omega, ?_⟩),
    hm.push _ _ hm.keep (Nat.le_refl _) (fun j hj => rfl) (fun x hx => by cases hx) hobj, hev⟩
  rw [updρ_same]; exact ⟨rfl, rfl⟩

/-! ### stores into a block -/

theorem wrote_setCell {b o : Nat} {arr : Array Value} {T : TypeId} {fz : Nat × Nat} (h : w.heap[b]? = some (.cells arr T fz)) (v : Value) :
    Wrote w (w.setCell ⟨b, o, none⟩ v) b ∧ (w.setCell ⟨b, o, none⟩ v).heap[b]? = some (.cells (arr.setIfInBounds o v) T fz) := by
  refine ⟨⟨rfl, rfl, rfl, by simp, fun j hj => Below.heap_setCell _ _ _ _ hj⟩, ?_⟩
  simp [World.setCell, Array.getElem?_modify, h]

theorem run_storeCells (b o : Nat) {T : TypeId} {fz : Nat × Nat} : ∀ (news : List Value) (i : Nat) (w : World) (arr : Array Value), w.heap[b]? = some (.cells arr T fz) → Unfrozen arr fz → o + i + news.length ≤ arr.size →
    (∀ u ∈ news, u.oneCell' = true) → ∃ w', (storeCells ⟨b, o, none⟩ news i).run P w = .ok () w' ∧ Wrote w w' b ∧ ∃ arr', w'.heap[b]? = some (.cells arr' T fz) ∧ arr'.size = arr.size ∧
      ∀ p, arr'[p]? = if o + i ≤ p ∧ p < o + i + news.length then news[p - (o + i)]? else arr[p]?
  | [], i, w, arr, h, hf, hl, h1 => ⟨w, by simp [storeCells], Wrote.refl w b, arr, h, rfl, fun p => by rw [if_neg (by simp only [List.length_nil]; omega)]⟩
  | v :: news, i, w, arr, h, hf, hl, h1 => by
    have hlt : o + i < arr.size := by simp at hl; omega
    have hcell : w.cell? ⟨b, o + i, none⟩ = some arr[o + i] := by rw [cell_of_cells h, Array.getElem?_eq_getElem hlt]
    have hfr : w.frozen? ⟨b, o + i, none⟩ = false := by simp only [World.frozen?, h]; exact hf _ hlt
    have hst : (store (Addr.add ⟨b, o, none⟩ i) v).run P w = .ok () (w.setCell ⟨b, o + i, none⟩ v) := by
      rw [Addr.add_lit, run_store P w _ _ _ (h1 v (by simp)), hcell]
      simp [hfr]
    obtain ⟨hw1, hh1⟩ := wrote_setCell (o := o + i) h v
    obtain ⟨w', hr, hw2, arr', hh2, hs2, hp⟩ := run_storeCells b o news (i + 1) (w.setCell ⟨b, o + i, none⟩ v) (arr.setIfInBounds (o + i) v) hh1 (by intro q hq; exact hf q (by simpa using hq))
      (by simp at hl ⊢; omega) (fun u hu => h1 u (by simp [hu]))
    refine ⟨w', ?_, hw1.trans hw2, arr', hh2, by simpa using hs2, fun p => ?_⟩
    · simp only [storeCells, Sem.run_bind, hst, Result.andThen, hr]
    · rw [hp p, List.length_cons]
      by_cases hp1 : o + (i + 1) ≤ p ∧ p < o + (i + 1) + news.length
      · rw [if_pos hp1, if_pos (by omega), show p - (o + i) = (p - (o + (i + 1))) + 1 from by omega, List.getElem?_cons_succ]
      · rw [if_neg hp1]
        by_cases hp2 : p = o + i
        · subst hp2
          rw [if_pos (by omega), Nat.sub_self, List.getElem?_cons_zero, Array.getElem?_setIfInBounds_self_of_lt hlt]
        · rw [if_neg (by omega), Array.getElem?_setIfInBounds_ne (by omega)]

theorem setCells_length {α : Type} (cs : List α) (off : Nat) (xs : List α) (h : off + xs.length ≤ cs.length) : (setCells cs off xs).length = cs.length := by
  unfold setCells
  split
  · simp
  · simp [List.length_take, List.length_drop]; omega

theorem setCells_get {α : Type} (cs : List α) (off : Nat) (xs : List α) (h : off + xs.length ≤ cs.length) (p : Nat) : (setCells cs off xs)[p]? = if off ≤ p ∧ p < off + xs.length then xs[p - off]? else cs[p]? := by
  unfold setCells
  split
  · rename_i x
    simp only [List.length_singleton] at h ⊢
    by_cases hp : p = off
    · subst hp; rw [if_pos (by omega), Nat.sub_self, List.getElem?_set_self (by omega)]; rfl
    · rw [if_neg (by omega), List.getElem?_set_ne (Ne.symm hp)]
  · by_cases h1 : p < off
    · rw [if_neg (by omega), List.append_assoc, List.getElem?_append_left (by simp [List.length_take]; omega), List.getElem?_take_of_lt h1]
    · by_cases h2 : p < off + xs.length
      · rw [if_pos (by omega), List.append_assoc, List.getElem?_append_right (by simp [List.length_take]; omega)]
        have : (cs.take off).length = off := by simp [List.length_take]; omega
        rw [this, List.getElem?_append_left (by omega)]
      · rw [if_neg (by omega), List.getElem?_append_right (by simp [List.length_take]; omega)]
        have : (cs.take off ++ xs).length = off + xs.length := by simp [List.length_take]; omega
        rw [this, List.getElem?_drop, show off + xs.length + (p - (off + xs.length)) = p from by omega]

theorem tSize_spec {t : TypeId} {n : Nat} (h : tSize P t = some n) : ∃ i, P.info? t = some i ∧ i.size = n := by
  unfold tSize at h
  cases hi : P.info? t with
  | none => rw [hi] at h; cases h
  | some i => rw [hi] at h; cases h; exact ⟨i, rfl, rfl⟩

theorem run_storeVar {t : TypeId} {n : Nat} (ht : tSize P t = some n) {b o : Nat} {v : Value} (hv : v.cells.size = n) {w' : World} (h : (storeCells ⟨b, o, none⟩ v.cells.toList).run P w = .ok () w') :
    (Instr.storeAt t (.pointer (some ⟨b, o, none⟩)) v).run P w = .ok () w' := by
  obtain ⟨i, hi, hs⟩ := tSize_spec ht
  simp [Instr.storeAt, Instr.sureAddr, storeVar, run_sizeOf hi, hs, hv, h]

theorem urun {s : Sem Unit} {w' : World} (h : s.run P w = .ok () w') : (do s; pure Next.skip : Sem Next).run P w = .ok .skip w' := by simp [h]

theorem cells_one {v : Value} {cs : List AV} {x : AV} (h : RepA M ρ E w x v) (hc : x.cells = some cs) (h1 : cs.all AV.one = true) : ∀ u ∈ v.cells.toList, u.oneCell' = true := by
  obtain ⟨h2, h3⟩ := rep_cells h hc
  intro u hu
  obtain ⟨i, hi⟩ := List.getElem?_of_mem hu
  rw [Array.getElem?_toList] at hi
  have hlt : i < cs.length := by rw [← h2]; exact (Array.getElem?_eq_some_iff.1 hi).1
  have hy := List.getElem?_eq_getElem hlt
  exact oneCell_of_oneA (h3 i _ u hy hi) (by simp at h1; exact h1 _ (List.mem_of_getElem? hy))

/-- A store into a variable. -/
theorem step_storevar (hm : MemOk X O w0 M ρ w) {t : TypeId} {n : Nat} (ht : tSize P t = some n) {k off : Nat} {T : TypeId} {cs ys : List AV} {x : AV} {av xv : Value} (ha : RepA M ρ (excl X M ρ) w (.mp k off) av)
    (hx : RepA M ρ (excl X M ρ) w x xv) (hM : M[k]? = some (.var T cs)) (hys : x.cells = some ys) (hn : ys.length = n) (hle : off + n ≤ cs.length) (hone : ys.all AV.one = true) :
    StepOk P X O w0 M ρ w .any (M.set k (.var T (setCells cs off ys))) ((do Instr.storeAt t av xv; pure Next.skip : Sem Next).run P w) := by
  obtain ⟨T', cs', b, h1, hb, rfl⟩ := inv_mp ha
  obtain ⟨b', arr, fz, h2, h3, h4, h5, h6⟩ := hm.obj k _ hM
  rw [hb] at h2; cases h2
  obtain ⟨hc1, hc2⟩ := rep_cells hx hys
  obtain ⟨w', hr, hw, arr', hh, hs, hp⟩ := run_storeCells (P := P) b off xv.cells.toList 0 w arr h3 h4 (by simp; omega) (cells_one hx hys hone)
  have hlt := lt_of_get hM
  have hev := Evo.set (X := X) k b _ (.var T (setCells cs off ys)) hM hb rfl hw rfl (hm.other hlt hb)
  refine ⟨_, _, w', ρ, urun (run_storeVar ht (by omega) hr), .inr ⟨rfl, rfl⟩, .any _, hm.set k b _ _ hM hb hw hev ?_, hev⟩
  refine ⟨b, arr', fz, hb, hh, fun i hi => h4 i (by omega), by rw [setCells_length _ _ _ (by omega)]; omega, fun i y u hy hu => ?_⟩
  rw [setCells_get _ _ _ (by omega)] at hy
  rw [hp i] at hu
  simp only [Nat.add_zero, Array.length_toList, Array.getElem?_toList] at hu
  rw [hc1] at hu
  split at hy
  · rename_i hin
    rw [if_pos hin] at hu
    exact (hc2 _ y u hy hu).mono hev
  · rename_i hin
    rw [if_neg hin] at hu
    exact (h6 i y u hy hu).mono hev

end
end Go.Proofs.Ytebegdnebjjnmaa.AM
