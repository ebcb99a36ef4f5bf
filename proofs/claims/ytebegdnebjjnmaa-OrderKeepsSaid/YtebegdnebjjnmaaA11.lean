
/- The abstract machine, 11: make, literals, copy, a string of bytes. No condition. -/
import Derived.Test.YtebegdnebjjnmaaA10
import Derived.Laws.BytesString
set_option linter.unusedVariables false
set_option linter.unusedSimpArgs false
namespace Go.Proofs.Ytebegdnebjjnmaa.AM
open Go Go.RowKit

section
variable {P : Program} {X O : Nat → Prop} {w0 : World} {M : List MO} {ρ : Nat → Option Nat} {E : Nat → Prop} {w : World}

theorem constIVcell_sound {v : Value} {z : IV} (h : constIVcell v = some z) : RepI E w z v ∧ z.one = true := by
  cases v with
  | bool b => cases h; exact ⟨.bool _, rfl⟩
  | int k n => cases h; exact ⟨.int _ _, rfl⟩
  | string s => cases h; exact ⟨.str _, rfl⟩
  | pointer a =>
    cases a with
    | none => cases h; exact ⟨.nilp, rfl⟩
    | some a => cases h
  | slice a n c =>
    unfold constIVcell at h
    split at h <;> first | (cases h; done) | skip
    all_goals rename_i e
    all_goals cases e
    cases h; exact ⟨.sl0 _ _ _, rfl⟩
  | _ => cases h

theorem mapM_cell : ∀ {l : List Value} {zs : List IV}, l.mapM constIVcell = some zs → zs.length = l.length ∧ ∀ (i : Nat) (y : IV) (u : Value), zs[i]? = some y → l[i]? = some u → RepI E w y u
  | [], zs, h => by simp at h; subst h; simp
  | v :: l, zs, h => by
    rw [List.mapM_cons] at h
    cases h1 : constIVcell v with
    | none => rw [h1] at h; cases h
    | some z =>
      rw [h1] at h
      cases h2 : l.mapM constIVcell with
      | none => rw [h2] at h; cases h
      | some zs' =>
        rw [h2] at h
        cases h
        obtain ⟨h3, h4⟩ := mapM_cell h2
        refine ⟨by simp [h3], fun i y u hy hu => ?_⟩
        cases i with
        | zero => simp at hy hu; subst hy hu; exact (constIVcell_sound h1).1
        | succ i => exact h4 i y u (by simpa using hy) (by simpa using hu)

theorem constIV_sound {v : Value} {z : IV} (h : constIV v = some z) : RepI E w z v ∧ ∀ vs, z ≠ .tup vs := by
  unfold constIV at h
  split at h
  · rename_i cs
    cases h1 : cs.toList.mapM constIVcell with
    | none => rw [h1] at h; cases h
    | some zs =>
      rw [h1] at h; cases h
      obtain ⟨h3, h4⟩ := mapM_cell (E := E) (w := w) h1
      exact ⟨.agg _ _ (by simpa using h3.symm) (fun i y u hy hu => h4 i y u hy (by simpa using hu)), by simp⟩
  · obtain ⟨h1, h2⟩ := constIVcell_sound (E := E) (w := w) h
    exact ⟨h1, not_tup_of_one h2⟩

/-- Zeros in a row. -/
theorem zeros_get {z : Array Value} {sz n i j : Nat} (hz : z.size = sz) (hi : i < n) (hj : j < sz) : ((Array.range (n * sz)).map fun p => z[p % z.size]!)[i * sz + j]? = z[j]? := by
  have hlt := block_le hi hj
  have hm : (i * sz + j) % sz = j := by rw [Nat.mul_comm, Nat.mul_add_mod, Nat.mod_eq_of_lt hj]
  rw [Array.getElem?_map, Array.getElem?_range, if_pos hlt]
  simp only [Option.map_some]
  rw [hz, hm, getElem!_pos z j (by omega), Array.getElem?_eq_getElem (by omega)]

theorem zeros_rep {zv : Value} {z : IV} {sz n : Nat} (hz : RepI E w z zv) (ht : ∀ vs, z ≠ .tup vs) (hf : z.fits sz = true) :
    ∀ (i : Nat) (x : IV) (j : Nat) (y : IV), (List.replicate n z)[i]? = some x → x.cells[j]? = some y → ∃ u, ((Array.range (n * sz)).map fun p => zv.cells[p % zv.cells.size]!)[i * sz + j]? = some u ∧ RepI E w y u := by
  intro i x j y hx hy
  rw [List.getElem?_replicate] at hx
  split at hx
  · rename_i hi
    cases hx
    obtain ⟨h1, h2⟩ := rep_cellsI hz ht
    have hl := IV.fits_len hf
    have hj : j < sz := by have := lt_of_get hy; omega
    rw [zeros_get (by omega) hi hj]
    have hlt : j < zv.cells.size := by omega
    exact ⟨_, Array.getElem?_eq_getElem hlt, h2 j y _ hy (Array.getElem?_eq_getElem hlt)⟩
  · cases hx

theorem fits_replicate {sz n : Nat} {z : IV} (hf : z.fits sz = true) : ∀ (i : Nat) (x : IV), (List.replicate n z)[i]? = some x → x.fits sz = true := by
  intro i x hx
  rw [List.getElem?_replicate] at hx
  split at hx
  · cases hx; exact hf
  · cases hx

theorem wrap_i64_id {x : Int} (h0 : -9223372036854775808 ≤ x) (h1 : x ≤ 9223372036854775807) : IntKind.i64.wrap x = x := by
  show (if (true && decide (x % (2 ^ 64 : Int) ≥ (2 ^ (64 - 1) : Int))) = true then x % (2 ^ 64 : Int) - (2 ^ 64 : Int) else x % (2 ^ 64 : Int)) = x
  simp only [Bool.true_and, decide_eq_true_eq, Nat.reduceSub]
  split <;> omega

theorem step_make (hm : MemOk X O w0 M ρ w) {t : TypeId} {e : Elem} (ht : tElem P t = some e) {z : IV} (hz : constIV e.zero = some z) (hf : z.fits e.sz = true) {k k' : IntKind} {n : Int} (h0 : 0 ≤ n) (hb : n * e.bytes ≤ 140737488355328) :
    StepOk P X O w0 M ρ w (.msl M.length 0 n.toNat n.toNat) (M ++ [.row true e.T e.sz (List.replicate n.toNat z)]) ((do pure (Next.value (← Instr.makeSlice t (.int k n) (.int k' n))) : Sem Next).run P w) := by
  obtain ⟨h3, i, hi, his, hby, hiz, hzs, hsz, hpos⟩ := tElem_spec ht
  obtain ⟨hz1, hz2⟩ := constIV_sound (E := excl X M ρ) (w := w) hz
  have hn1 : n ≤ n * e.bytes := by
    have : n * 1 ≤ n * (e.bytes : Int) := Int.mul_le_mul_of_nonneg_left (by omega) h0
    omega
  have hw : IntKind.i64.wrap n = n := wrap_i64_id (by omega) (by omega)
  have hbn : (e.bytes : Int) * n ≤ 140737488355328 := by rw [Int.mul_comm]; exact hb
  have hr : (Instr.makeSlice t (.int k n) (.int k' n)).run P w = .ok (.slice (some ⟨w.heap.size, 0, none⟩) n.toNat n.toNat) (w.alloc (.cells ((Array.range (n.toNat * e.sz)).map fun p => e.zero.cells[p % e.zero.cells.size]!) e.T)) := by
    have h1 : ¬ (281474976710656 < (e.bytes : Int) * n) := by omega
    have h2 : ¬ (n < 0) := by omega
    by_cases hn0 : n.toNat * e.sz = 0
    · have hn00 : n = 0 := by
        rcases Nat.mul_eq_zero.1 hn0 with h | h <;> omega
      subst hn00
      simp [Instr.makeSlice, run_underlying h3, asInt, asIntOf, run_typeInfo hi, hby, run_sizeOf hi, his, newRow, show IntKind.i64.wrap 0 = 0 from by decide, Array.range_zero']
    · simp [Instr.makeSlice, run_underlying h3, asInt, asIntOf, run_typeInfo hi, hby, hw, h1, h2, run_sizeOf hi, his, newRow, hn0, run_zeroValue hi hiz]
  have := step_newrow (P := P) hm e.T (sz := e.sz) (xs := List.replicate n.toNat z) (arr := (Array.range (n.toNat * e.sz)).map fun p => e.zero.cells[p % e.zero.cells.size]!) (cap := n.toNat) (by simp) (by simp)
    (fits_replicate hf) (zeros_rep hz1 hz2 hf) (w' := w.alloc _) (News.alloc w _) (r := (do pure (Next.value (← Instr.makeSlice t (.int k n) (.int k' n))) : Sem Next).run P w) (by rw [vrun hr, List.length_replicate])
  simpa using this

theorem fold_set (off : Nat) : ∀ (l : List Value) (k : Nat) (cs : Array Value), off + k + l.length ≤ cs.size →
    ((l.zipIdx k).foldl (fun cs (c, j) => cs.setIfInBounds (off + j) c) cs).size = cs.size ∧
    ∀ p, ((l.zipIdx k).foldl (fun cs (c, j) => cs.setIfInBounds (off + j) c) cs)[p]? = if off + k ≤ p ∧ p < off + k + l.length then l[p - (off + k)]? else cs[p]?
  | [], k, cs, h => ⟨rfl, fun p => by rw [if_neg (by simp only [List.length_nil]; omega)]; rfl⟩
  | v :: l, k, cs, h => by
    simp only [List.length_cons] at h
    obtain ⟨h1, h2⟩ := fold_set off l (k + 1) (cs.setIfInBounds (off + k) v) (by simp; omega)
    simp only [List.zipIdx_cons, List.foldl_cons]
    refine ⟨by rw [h1]; simp, fun p => ?_⟩
    rw [h2 p, List.length_cons]
    by_cases hp1 : off + (k + 1) ≤ p ∧ p < off + (k + 1) + l.length
    · rw [if_pos hp1, if_pos (by omega), show p - (off + k) = (p - (off + (k + 1))) + 1 from by omega, List.getElem?_cons_succ]
    · rw [if_neg hp1]
      by_cases hp2 : p = off + k
      · subst hp2
        rw [if_pos (by omega), Nat.sub_self, List.getElem?_cons_zero, Array.getElem?_setIfInBounds_self_of_lt (by omega)]
      · rw [if_neg (by omega), Array.getElem?_setIfInBounds_ne (by omega)]

theorem fold_set_arr (off : Nat) (vs cs : Array Value) (h : off + vs.size ≤ cs.size) :
    (vs.zipIdx.foldl (fun cs (c, j) => cs.setIfInBounds (off + j) c) cs).size = cs.size ∧
    ∀ p, (vs.zipIdx.foldl (fun cs (c, j) => cs.setIfInBounds (off + j) c) cs)[p]? = if off ≤ p ∧ p < off + vs.size then vs[p - off]? else cs[p]? := by
  have := fold_set off vs.toList 0 cs (by simpa using h)
  rw [← Array.foldl_toList, Array.toList_zipIdx]
  simpa using this

/-- A struct's literal. -/
theorem fill_sound {ev : Nat → Option (Nat × Nat)} : ∀ (parts : List (Nat × AV)) (vparts : List (Nat × Value)) (cs r : List AV) (vs : Array Value), vs.size = cs.length →
    (∀ (i : Nat) (y : AV) (u : Value), cs[i]? = some y → vs[i]? = some u → RepA M ρ E w y u) →
    parts.length = vparts.length → (∀ (i : Nat) (p : Nat × AV) (q : Nat × Value), parts[i]? = some p → vparts[i]? = some q → p.1 = q.1 ∧ RepA M ρ E w p.2 q.2) →
    fillAV ev cs parts = some r → ∃ us, Instr.fill ev vs vparts = some us ∧ us.size = r.length ∧ ∀ (i : Nat) (y : AV) (u : Value), r[i]? = some y → us[i]? = some u → RepA M ρ E w y u
  | [], vp, cs, r, vs, hl, hc, hlen, hp, h => by
    cases vp with
    | nil => simp [fillAV] at h; subst h; exact ⟨vs, rfl, hl, hc⟩
    | cons => simp at hlen
  | (i, x) :: parts, vp, cs, r, vs, hl, hc, hlen, hp, h => by
    cases vp with
    | nil => simp at hlen
    | cons q vp =>
    obtain ⟨i', v⟩ := q
    obtain ⟨h1, h2⟩ := hp 0 _ _ rfl rfl
    simp only at h1 h2
    subst h1
    simp only [fillAV] at h
    cases hpl : ev i with
    | none => rw [hpl] at h; cases h
    | some os =>
      obtain ⟨off, size⟩ := os
      rw [hpl] at h
      simp only [Option.bind_some] at h
      cases hxc : x.cells with
      | none => rw [hxc] at h; cases h
      | some xs =>
        rw [hxc] at h
        simp only [Option.bind_some] at h
        split at h
        · cases h
        · rename_i hcond
          obtain ⟨g1, g2⟩ := rep_cells h2 hxc
          have hsz : xs.length = size := by omega
          have hbd : off + size ≤ cs.length := by omega
          obtain ⟨f1, f2⟩ := fold_set_arr off v.cells vs (by omega)
          obtain ⟨us, h3, h4, h5⟩ := fill_sound parts vp (setCells cs off xs) r (v.cells.zipIdx.foldl (fun cs (c, j) => cs.setIfInBounds (off + j) c) vs) (by rw [f1, setCells_length _ _ _ (by omega)]; exact hl)
            (fun p y u hy hu => by
              rw [setCells_get _ _ _ (by omega)] at hy
              rw [f2 p, g1] at hu
              split at hy
              · rename_i hin; rw [if_pos hin] at hu; exact g2 _ y u hy hu
              · rename_i hin; rw [if_neg hin] at hu; exact hc p y u hy hu)
            (by simpa using hlen) (fun i p q h6 h7 => hp (i + 1) p q h6 h7) h
          refine ⟨us, ?_, h4, h5⟩
          simp only [Instr.fill, hpl]
          rw [if_neg (by simp; omega)]
          exact h3

theorem run_places {s : Nat} : ∀ (l : List Field) (pl : List (Nat × Nat)), placesOf P l = some pl → (l.mapM (fun f => do pure (f.offset, ← sizeOf f.type) : Field → Sem (Nat × Nat))).run P w = .ok pl w
  | [], pl, h => by simp [placesOf] at h; subst h; simp
  | f :: l, pl, h => by
    simp only [placesOf] at h
    cases hi : P.info? f.type with
    | none => rw [hi] at h; cases h
    | some i =>
      rw [hi] at h
      simp only [Option.bind_some] at h
      cases hr : placesOf P l with
      | none => rw [hr] at h; cases h
      | some r =>
        rw [hr] at h; cases h
        have ih := run_places (s := s) l r hr
        simp only [List.mapM_cons, Sem.run_bind, run_sizeOf hi, Result.andThen_ok, Sem.run_pure, ih]

theorem run_build {t : TypeId} {z : Value} {pl : List (Nat × Nat)} (hz : tZero P t = some z) (hp : tPlaces P t = some pl) {parts : Array (Nat × Value)} {us : Array Value} (hf : Instr.fill (fun i => pl[i]?) z.cells parts.toList = some us) :
    (Instr.build t parts).run P w = .ok (.agg us) w := by
  unfold tZero at hz
  cases hi : P.info? t with
  | none => rw [hi] at hz; cases hz
  | some i =>
    rw [hi] at hz
    simp only [Option.bind_some] at hz
    unfold tPlaces at hp
    split at hp
    · rename_i fs hfs
      have hpl := run_places (P := P) (w := w) (s := 0) fs.toList pl hp
      have hpl2 : (fs.mapM (fun f => do pure (f.offset, ← sizeOf f.type) : Field → Sem (Nat × Nat))).run P w = .ok pl.toArray w := by
        rw [Array.mapM_eq_mapM_toList, Sem.run_map, hpl]; rfl
      simp only [Instr.build, Sem.run_bind, run_zeroValue hi hz, Result.andThen_ok, run_underlying hfs, hpl2]
      rw [show (fun i => pl.toArray[i]?) = (fun i => pl[i]?) from funext fun i => by simp, hf]
      rfl
    · cases hp


theorem partsF_sound : ∀ (l : List (Nat × AV)) {M M' : List MO} {ys : List (Nat × IV)} (hm : MemOk X O w0 M ρ w) (vs : List (Nat × Value)) (hl : vs.length = l.length)
    (hx : ∀ (i : Nat) (p : Nat × AV) (q : Nat × Value), l[i]? = some p → vs[i]? = some q → p.1 = q.1 ∧ RepA M ρ (excl X M ρ) w p.2 q.2) (h : partsF M l = some (ys, M')),
    FreezeOk X O w0 M ρ w M' ∧ ys.length = l.length ∧ ∀ (i : Nat) (p : Nat × IV) (q : Nat × Value), ys[i]? = some p → vs[i]? = some q → p.1 = q.1 ∧ RepI (excl X M' ρ) w p.2 q.2 ∧ ∀ us, p.2 ≠ .tup us
  | [], M, M', ys, hm, vs, hl, hx, h => by
    simp [partsF] at h; obtain ⟨rfl, rfl⟩ := h
    exact ⟨⟨hm, Evo.refl _ _ _ _, rfl⟩, rfl, by simp⟩
  | (n, x) :: l, M, M', ys, hm, vs, hl, hx, h => by
    cases vs with
    | nil => simp at hl
    | cons v vs =>
    simp only [partsF] at h
    cases h1 : toIVF M x with
    | none => rw [h1] at h; cases h
    | some q =>
      obtain ⟨y, M1⟩ := q
      rw [h1] at h
      simp only [Option.bind_some] at h
      cases h2 : partsF M1 l with
      | none => rw [h2] at h; cases h
      | some q2 =>
        obtain ⟨ys', M2⟩ := q2
        rw [h2] at h
        simp only [Option.map_some, Option.some.injEq, Prod.mk.injEq] at h
        obtain ⟨rfl, rfl⟩ := h
        obtain ⟨g1, g2⟩ := hx 0 (n, x) v rfl rfl
        obtain ⟨hf, hy, hnt⟩ := toIVF_sound hm g2 h1
        obtain ⟨hf2, hl2, hy2⟩ := partsF_sound l hf.1 vs (by simpa using hl) (fun i p q h3 h4 => ⟨(hx (i + 1) p q h3 h4).1, (hx (i + 1) p q h3 h4).2.mono hf.2.1⟩) h2
        refine ⟨hf.trans hf2, by simp [hl2], fun i y' v' h3 h4 => ?_⟩
        cases i with
        | zero => simp at h3 h4; subst h3 h4; exact ⟨g1, hy.mono hf2.2.1.stay, hnt⟩
        | succ i => exact hy2 i y' v' (by simpa using h3) (by simpa using h4)

theorem fillRow_sound {sz : Nat} : ∀ (ps : List (Nat × IV)) (vps : List (Nat × Value)) (xs r : List IV) (vs : Array Value), vs.size = xs.length * sz → (∀ (i : Nat) (x : IV), xs[i]? = some x → x.fits sz = true) →
    (∀ (i : Nat) (x : IV) (j : Nat) (y : IV), xs[i]? = some x → x.cells[j]? = some y → ∃ u, vs[i * sz + j]? = some u ∧ RepI E w y u) → ps.length = vps.length →
    (∀ (i : Nat) (p : Nat × IV) (q : Nat × Value), ps[i]? = some p → vps[i]? = some q → p.1 = q.1 ∧ RepI E w p.2 q.2 ∧ ∀ us, p.2 ≠ .tup us) → (∀ p ∈ ps, p.2.fits sz = true) → fillRow xs ps = some r →
    ∃ us, Instr.fill (fun i => some (i * sz, sz)) vs vps = some us ∧ us.size = vs.size ∧ r.length = xs.length ∧ (∀ (i : Nat) (x : IV), r[i]? = some x → x.fits sz = true) ∧
      ∀ (i : Nat) (x : IV) (j : Nat) (y : IV), r[i]? = some x → x.cells[j]? = some y → ∃ u, us[i * sz + j]? = some u ∧ RepI E w y u
  | [], vp, xs, r, vs, hs, hf, hc, hl, hp, hpf, h => by
    cases vp with
    | nil => simp [fillRow] at h; subst h; exact ⟨vs, rfl, rfl, rfl, hf, hc⟩
    | cons => simp at hl
  | (i, v) :: ps, vp, xs, r, vs, hs, hf, hc, hl, hp, hpf, h => by
    cases vp with
    | nil => simp at hl
    | cons q vp =>
    obtain ⟨i', u⟩ := q
    obtain ⟨h1, h2, h3⟩ := hp 0 _ _ rfl rfl
    simp only at h1 h2 h3
    subst h1
    simp only [fillRow] at h
    split at h
    · rename_i hi
      have hvf : v.fits sz = true := hpf (i, v) (by simp)
      obtain ⟨g1, g2⟩ := rep_cellsI h2 h3
      rw [IV.fits_len hvf] at g1
      have hbl : i * sz + sz ≤ vs.size := by rw [hs, ← Nat.succ_mul]; exact Nat.mul_le_mul_right _ hi
      obtain ⟨f1, f2⟩ := fold_set_arr (i * sz) u.cells vs (by omega)
      have hfits' : ∀ (i' : Nat) (x : IV), (xs.set i v)[i']? = some x → x.fits sz = true := fun i' x hx => by
        by_cases e : i' = i
        · subst e; rw [List.getElem?_set_self hi] at hx; cases hx; exact hvf
        · rw [List.getElem?_set_ne (Ne.symm e)] at hx; exact hf i' x hx
      obtain ⟨us, k1, k2, k3, k4, k5⟩ := fillRow_sound ps vp (xs.set i v) r _ (by rw [f1]; simpa using hs) hfits'
        (fun i' x j y hx hy => by
          have hj : j < sz := by have := lt_of_get hy; rw [IV.fits_len (hfits' i' x hx)] at this; exact this
          rw [f2, g1]
          by_cases e : i' = i
          · subst e
            rw [List.getElem?_set_self hi] at hx; cases hx
            rw [if_pos (by omega), Nat.add_sub_cancel_left]
            have hlt : j < u.cells.size := by omega
            exact ⟨_, Array.getElem?_eq_getElem hlt, g2 j y _ hy (Array.getElem?_eq_getElem hlt)⟩
          · rw [List.getElem?_set_ne (Ne.symm e)] at hx
            rw [if_neg ?_]
            · exact hc i' x j y hx hy
            · rintro ⟨h7, h8⟩
              have := idx_split (i := i') (i' := i) (j := j) (j' := i' * sz + j - i * sz) hj (by omega) (by omega)
              exact e this.1)
        (by simpa using hl) (fun i p q h6 h7 => hp (i + 1) p q h6 h7) (fun p hp' => hpf p (by simp [hp'])) h
      refine ⟨us, ?_, by rw [k2, f1], by simpa using k3, k4, k5⟩
      simp only [Instr.fill]
      rw [if_neg (by simp; omega)]
      exact k1
    · cases h

theorem step_buildSlice (hm : MemOk X O w0 M ρ w) {t : TypeId} {e : Elem} (ht : tElem P t = some e) {z : IV} (hz : constIV e.zero = some z) {len : Nat} (hle : len * e.sz ≤ 16777216) (hf : z.fits e.sz = true)
    {ps : List (Nat × AV)} {vps : Array (Nat × Value)} (hl : vps.size = ps.length) (hps : ∀ (i : Nat) (p : Nat × AV) (q : Nat × Value), ps[i]? = some p → vps[i]? = some q → p.1 = q.1 ∧ RepA M ρ (excl X M ρ) w p.2 q.2)
    {ys : List (Nat × IV)} {M' : List MO} (hp : partsF M ps = some (ys, M')) (hyf : ys.all (fun p => p.2.fits e.sz) = true) {xs : List IV} (hx : fillRow (List.replicate len z) ys = some xs) :
    StepOk P X O w0 M ρ w (.msl M'.length 0 len len) (M' ++ [.row true e.T e.sz xs]) ((do pure (Next.value (← Instr.buildSlice t len vps)) : Sem Next).run P w) := by
  obtain ⟨h3, i, hi, his, hby, hiz, hzs, hsz, hpos⟩ := tElem_spec ht
  obtain ⟨hfr, hyl, hy⟩ := partsF_sound ps hm vps.toList (by simpa using hl) (fun i p q h1 h2 => hps i p q h1 (by simpa using h2)) hp
  obtain ⟨hz1, hz2⟩ := constIV_sound (E := excl X M' ρ) (w := w) hz
  obtain ⟨us, k1, k2, k3, k4, k5⟩ := fillRow_sound (E := excl X M' ρ) (w := w) (sz := e.sz) ys vps.toList (List.replicate len z) xs ((Array.range (len * e.sz)).map fun p => e.zero.cells[p % e.zero.cells.size]!) (by simp)
    (fits_replicate hf) (zeros_rep hz1 hz2 hf) (by simp [hyl, hl]) hy (fun p hp' => by simp at hyf; exact hyf p.1 p.2 hp') hx
  simp only [List.length_replicate] at k3
  have hr : (Instr.buildSlice t len vps).run P w = .ok (.slice (some ⟨w.heap.size, 0, none⟩) len len) (w.alloc (.cells us e.T)) := by
    have h1 : ¬ (16777216 < len * e.sz) := by omega
    by_cases hn0 : len * e.sz = 0
    · rw [hn0] at k1
      simp [Instr.buildSlice, run_underlying h3, run_sizeOf hi, his, hn0, newRow, Array.range_zero'] at k1 ⊢
      simp [k1]
    · simp [Instr.buildSlice, run_underlying h3, run_sizeOf hi, his, h1, hn0, run_zeroValue hi hiz, k1, newRow]
  subst k3
  obtain ⟨nx, u, w', ρ', a1, a2, a3, a4, a5⟩ := step_newrow (P := P) hfr.1 e.T (cap := xs.length) (Nat.le_refl _) (by rw [k2]; simp) k4 k5 (w' := w.alloc _) (News.alloc w _) (vrun hr)
  exact ⟨nx, u, w', ρ', a1, a2, a3, a4, hfr.2.1.trans a5⟩

/-- copy into a row of the call's own. -/
theorem step_copy (hm : MemOk X O w0 M ρ w) {ts : Array TypeId} {t ty : TypeId} {e : Elem} (ht : tElem P t = some e) (h0 : ts[0]? = some t) {k off len n : Nat} {xs ys : List IV} {x : AV} {dv xv : Value}
    (hd : RepA M ρ (excl X M ρ) w (.msl k off len n) dv) (hx : RepA M ρ (excl X M ρ) w x xv) (hM : M[k]? = some (.row true e.T e.sz xs)) (hn : n = xs.length) (hle : off + len ≤ n) (hys : elems M e.sz x = some ys) :
    StepOk P X O w0 M ρ w (.iv (.int .i64 (min ys.length len : Nat))) (M.set k (.row true e.T e.sz (xs.take off ++ ys.take (min ys.length len) ++ xs.drop (off + min ys.length len))))
      ((do pure (Next.value (← Builtin.copy_ ts ty #[dv, xv])) : Sem Next).run P w) := by
  obtain ⟨h3, i, hi, his, hby, hz, hzs, hsz, hpos⟩ := tElem_spec ht
  obtain ⟨g1, A, c, rfl, hlc, g2⟩ := msl_spec hd hM hn
  obtain ⟨hf, hlen, news, hl, hone, hrep, hcells⟩ := elems_sound (P := P) hm hx hys
  have hfx := row_fits hm hM
  generalize hq : min ys.length len = q
  have hqy : q ≤ ys.length := by omega
  have hql : q ≤ len := by omega
  have hc := hcells q w rfl hqy
  have hnewxs : (xs.take off ++ ys.take q ++ xs.drop (off + q)).length = xs.length := by simp [List.length_take, List.length_drop]; omega
  have hget : ∀ p, (xs.take off ++ ys.take q ++ xs.drop (off + q))[p]? = if off ≤ p ∧ p < off + q then ys[p - off]? else xs[p]? := by
    intro p
    have hqlen : (ys.take q).length = q := by simp [List.length_take]; omega
    have := setCells_get xs off (ys.take q) (by omega) p
    rw [hqlen] at this
    by_cases h1 : p < off
    · rw [if_neg (by omega), List.append_assoc, List.getElem?_append_left (by simp [List.length_take]; omega), List.getElem?_take_of_lt h1]
    · by_cases h2 : p < off + q
      · rw [if_pos (by omega), List.append_assoc, List.getElem?_append_right (by simp [List.length_take]; omega)]
        have e1 : (xs.take off).length = off := by simp [List.length_take]; omega
        rw [e1, List.getElem?_append_left (by omega), List.getElem?_take_of_lt (by omega)]
      · rw [if_neg (by omega), List.getElem?_append_right (by simp [List.length_take]; omega)]
        have e1 : (xs.take off ++ ys.take q).length = off + q := by simp [List.length_take]; omega
        rw [e1, List.getElem?_drop, show off + q + (p - (off + q)) = p from by omega]
  have hfn : ∀ (i : Nat) (x : IV), (xs.take off ++ ys.take q ++ xs.drop (off + q))[i]? = some x → x.fits e.sz = true := fun i x hx' => by
    rw [hget] at hx'
    split at hx'
    · exact hf _ x hx'
    · exact hfx i x hx'
  by_cases hq0 : q = 0
  · subst hq0
    have hset : M.set k (.row true e.T e.sz (xs.take off ++ ys.take 0 ++ xs.drop (off + 0))) = M := by
      rw [List.take_zero, List.append_nil, Nat.add_zero, List.take_append_drop]
      apply List.ext_getElem?
      intro j
      by_cases hj : j = k
      · subst hj; rw [List.getElem?_set_self (lt_of_get hM), hM]
      · rw [List.getElem?_set_ne (Ne.symm hj)]
    rw [hset]
    refine StepOk.same hm (u := .int .i64 0) (vrun ?_) (.iv _ _ (.int _ _))
    have hmin : Nat.min ys.length len = 0 := hq
    simp only [Nat.zero_mul, List.take_zero] at hc
    cases A <;> simp [Builtin.copy_, h0, run_underlying h3, hlen, run_sizeOf hi, his, hmin, hc, goInt, storeCells]
  · cases hk : ρ k with
    | none => rw [hk] at g2; omega
    | some b =>
      rw [hk] at g2
      obtain ⟨g3, arr, fz, g4, g5⟩ := g2
      have hA := g3 (by omega)
      subst hA
      obtain ⟨_, arr2, fz2, g6, g7, g8, g9⟩ := row_cell hm hM hk
      rw [g4] at g6; cases g6
      have hqs : q * e.sz ≤ news.length := by rw [hl]; exact Nat.mul_le_mul_right _ hqy
      have htl : (news.take (q * e.sz)).length = q * e.sz := by rw [List.length_take]; omega
      have hbd : off * e.sz + q * e.sz ≤ arr.size := by
        rw [← Nat.add_mul]; exact Nat.le_trans (Nat.mul_le_mul_right _ (by omega)) g5
      obtain ⟨w', hr, hw, arr', hh, hsz', hp⟩ := run_storeCells (P := P) b (off * e.sz) (news.take (q * e.sz)) 0 w arr g4 g7 (by omega) (fun u hu => hone u (List.mem_of_mem_take hu))
      obtain ⟨hm2, hev⟩ := step_writerow hm hM hk (xs' := xs.take off ++ ys.take q ++ xs.drop (off + q)) (by omega) hw hh (fun arr3 fz3 h3' => by rw [g4] at h3'; cases h3'; exact ⟨rfl, hsz'⟩)
        (by rw [hnewxs, hsz']; exact g8) hfn
        (fun i x j y hx' hy => by
          have hj : j < e.sz := by have := lt_of_get hy; rw [IV.fits_len (hfn i x hx')] at this; exact this
          rw [hp, htl]
          simp only [Nat.add_zero]
          rw [hget] at hx'
          split at hx'
          · rename_i hin
            obtain ⟨u, hu, hr'⟩ := hrep _ x j y hx' hy
            have e1 : i * e.sz + j = off * e.sz + ((i - off) * e.sz + j) := by
              rw [← Nat.add_assoc, ← Nat.add_mul]; congr 2; omega
            have hlt2 := block_le (i := i - off) (n := q) (by omega) hj
            rw [e1, if_pos (by omega), Nat.add_sub_cancel_left, List.getElem?_take_of_lt hlt2]
            exact ⟨u, hu, hr'⟩
          · rename_i hin
            rw [if_neg ?_]
            · exact g9 i x j y hx' hy
            · rintro ⟨h7, h8⟩
              have hi1 : off ≤ i := by
                rcases Nat.lt_or_ge i off with h | h
                · have := block_le h hj; omega
                · exact h
              have hi2 : i < off + q := by
                rcases Nat.lt_or_ge i (off + q) with h | h
                · exact h
                · have : (off + q) * e.sz ≤ i * e.sz := Nat.mul_le_mul_right _ h
                  rw [Nat.add_mul] at this; omega
              exact hin ⟨hi1, hi2⟩)
      refine ⟨_, _, w', ρ, vrun (u := .int .i64 q) (w' := w') ?_, .inl rfl, .iv _ _ (.int _ _), hm2, hev⟩
      have hmin : Nat.min ys.length len = q := hq
      simp [Builtin.copy_, h0, run_underlying h3, hlen, run_sizeOf hi, his, hmin, hc, goInt, hr]

/-- clear of a part of a row of the call's own. -/
theorem step_clear (hm : MemOk X O w0 M ρ w) {ts : Array TypeId} {t ty : TypeId} {e : Elem} (ht : tElem P t = some e) (h0 : ts[0]? = some t) {z : IV} (hz0 : constIV e.zero = some z) (hfz : z.fits e.sz = true) {k off len n : Nat} {xs : List IV} {dv : Value}
    (hd : RepA M ρ (excl X M ρ) w (.msl k off len n) dv) (hM : M[k]? = some (.row true e.T e.sz xs)) (hn : n = xs.length) (hle : off + len ≤ n) :
    StepOk P X O w0 M ρ w (.iv (.tup [])) (M.set k (.row true e.T e.sz (xs.take off ++ List.replicate len z ++ xs.drop (off + len))))
      ((do pure (Next.value (← Builtin.clear_ ts ty #[dv])) : Sem Next).run P w) := by
  obtain ⟨h3, i, hi, his, hby, hz, hzs, hsz, hpos⟩ := tElem_spec ht
  obtain ⟨g1, A, c, rfl, hlc, g2⟩ := msl_spec hd hM hn
  obtain ⟨hz1, hz2⟩ := constIV_sound (E := excl X M ρ) (w := w) hz0
  obtain ⟨ys, hys⟩ : ∃ ys, ys = List.replicate len z := ⟨_, rfl⟩
  have hyl : ys.length = len := by rw [hys, List.length_replicate]
  obtain ⟨news, hnews⟩ : ∃ news : List Value, news = ((Array.range (len * e.sz)).map fun p => e.zero.cells[p % e.zero.cells.size]!).toList := ⟨_, rfl⟩
  have hl : news.length = ys.length * e.sz := by rw [hnews, hyl]; simp
  have hf : ∀ (i : Nat) (x : IV), ys[i]? = some x → x.fits e.sz = true := by rw [hys]; exact fits_replicate hfz
  have hrep : ∀ (i : Nat) (x : IV) (j : Nat) (y : IV), ys[i]? = some x → x.cells[j]? = some y → ∃ u, news[i * e.sz + j]? = some u ∧ RepI (excl X M ρ) w y u := by
    intro i x j y h1 h2
    rw [hys] at h1
    obtain ⟨u, h3, h4⟩ := zeros_rep hz1 hz2 hfz i x j y h1 h2
    exact ⟨u, by rw [hnews, Array.getElem?_toList]; exact h3, h4⟩
  have hone : ∀ u ∈ news, u.oneCell' = true := by
    intro u hu
    obtain ⟨p, hp⟩ := List.getElem?_of_mem hu
    have hpl := lt_of_get hp
    rw [hl, hyl] at hpl
    have hdm : p = p / e.sz * e.sz + p % e.sz := by rw [Nat.mul_comm]; exact (Nat.div_add_mod p e.sz).symm
    have hpd : p / e.sz < len := Nat.div_lt_of_lt_mul (by rw [Nat.mul_comm]; exact hpl)
    have hpm : p % e.sz < e.sz := Nat.mod_lt _ hsz
    have hzl := IV.fits_len hfz
    obtain ⟨u', h3, h4⟩ := hrep (p / e.sz) z (p % e.sz) (z.cells[p % e.sz]'(by omega)) (by rw [hys, List.getElem?_replicate, if_pos hpd]) (List.getElem?_eq_getElem (by omega))
    rw [← hdm, hp] at h3
    cases h3
    exact oneCell_of_one h4 (IV.fits_one hfz (List.getElem?_eq_getElem (by omega)))
  rw [← hys]
  have hfx := row_fits hm hM
  obtain ⟨q, hq⟩ : ∃ q, q = len := ⟨_, rfl⟩
  have hyt : ys = ys.take q := by rw [List.take_of_length_le (by omega)]
  rw [hyt, ← hq]
  have hqy : q ≤ ys.length := by omega
  have hql : q ≤ len := by omega
  have hnewxs : (xs.take off ++ ys.take q ++ xs.drop (off + q)).length = xs.length := by simp [List.length_take, List.length_drop]; omega
  have hget : ∀ p, (xs.take off ++ ys.take q ++ xs.drop (off + q))[p]? = if off ≤ p ∧ p < off + q then ys[p - off]? else xs[p]? := by
    intro p
    have hqlen : (ys.take q).length = q := by simp [List.length_take]; omega
    have := setCells_get xs off (ys.take q) (by omega) p
    rw [hqlen] at this
    by_cases h1 : p < off
    · rw [if_neg (by omega), List.append_assoc, List.getElem?_append_left (by simp [List.length_take]; omega), List.getElem?_take_of_lt h1]
    · by_cases h2 : p < off + q
      · rw [if_pos (by omega), List.append_assoc, List.getElem?_append_right (by simp [List.length_take]; omega)]
        have e1 : (xs.take off).length = off := by simp [List.length_take]; omega
        rw [e1, List.getElem?_append_left (by omega), List.getElem?_take_of_lt (by omega)]
      · rw [if_neg (by omega), List.getElem?_append_right (by simp [List.length_take]; omega)]
        have e1 : (xs.take off ++ ys.take q).length = off + q := by simp [List.length_take]; omega
        rw [e1, List.getElem?_drop, show off + q + (p - (off + q)) = p from by omega]
  have hfn : ∀ (i : Nat) (x : IV), (xs.take off ++ ys.take q ++ xs.drop (off + q))[i]? = some x → x.fits e.sz = true := fun i x hx' => by
    rw [hget] at hx'
    split at hx'
    · exact hf _ x hx'
    · exact hfx i x hx'
  by_cases hq0 : q = 0
  · subst hq0
    have hset : M.set k (.row true e.T e.sz (xs.take off ++ ys.take 0 ++ xs.drop (off + 0))) = M := by
      rw [List.take_zero, List.append_nil, Nat.add_zero, List.take_append_drop]
      apply List.ext_getElem?
      intro j
      by_cases hj : j = k
      · subst hj; rw [List.getElem?_set_self (lt_of_get hM), hM]
      · rw [List.getElem?_set_ne (Ne.symm hj)]
    rw [hset]
    subst hq
    refine StepOk.same hm (u := .tuple #[]) (vrun ?_) (.iv _ _ (.tup [] #[] rfl (by simp)))
    cases A <;> simp [Builtin.clear_, h0, run_underlying h3]
  · cases hk : ρ k with
    | none => rw [hk] at g2; omega
    | some b =>
      rw [hk] at g2
      obtain ⟨g3, arr, fz, g4, g5⟩ := g2
      have hA := g3 (by omega)
      subst hA
      obtain ⟨_, arr2, fz2, g6, g7, g8, g9⟩ := row_cell hm hM hk
      rw [g4] at g6; cases g6
      have hqs : q * e.sz ≤ news.length := by rw [hl]; exact Nat.mul_le_mul_right _ hqy
      have htl : (news.take (q * e.sz)).length = q * e.sz := by rw [List.length_take]; omega
      have hbd : off * e.sz + q * e.sz ≤ arr.size := by
        rw [← Nat.add_mul]; exact Nat.le_trans (Nat.mul_le_mul_right _ (by omega)) g5
      obtain ⟨w', hr, hw, arr', hh, hsz', hp⟩ := run_storeCells (P := P) b (off * e.sz) (news.take (q * e.sz)) 0 w arr g4 g7 (by omega) (fun u hu => hone u (List.mem_of_mem_take hu))
      obtain ⟨hm2, hev⟩ := step_writerow hm hM hk (xs' := xs.take off ++ ys.take q ++ xs.drop (off + q)) (by omega) hw hh (fun arr3 fz3 h3' => by rw [g4] at h3'; cases h3'; exact ⟨rfl, hsz'⟩)
        (by rw [hnewxs, hsz']; exact g8) hfn
        (fun i x j y hx' hy => by
          have hj : j < e.sz := by have := lt_of_get hy; rw [IV.fits_len (hfn i x hx')] at this; exact this
          rw [hp, htl]
          simp only [Nat.add_zero]
          rw [hget] at hx'
          split at hx'
          · rename_i hin
            obtain ⟨u, hu, hr'⟩ := hrep _ x j y hx' hy
            have e1 : i * e.sz + j = off * e.sz + ((i - off) * e.sz + j) := by
              rw [← Nat.add_assoc, ← Nat.add_mul]; congr 2; omega
            have hlt2 := block_le (i := i - off) (n := q) (by omega) hj
            rw [e1, if_pos (by omega), Nat.add_sub_cancel_left, List.getElem?_take_of_lt hlt2]
            exact ⟨u, hu, hr'⟩
          · rename_i hin
            rw [if_neg ?_]
            · exact g9 i x j y hx' hy
            · rintro ⟨h7, h8⟩
              have hi1 : off ≤ i := by
                rcases Nat.lt_or_ge i off with h | h
                · have := block_le h hj; omega
                · exact h
              have hi2 : i < off + q := by
                rcases Nat.lt_or_ge i (off + q) with h | h
                · exact h
                · have : (off + q) * e.sz ≤ i * e.sz := Nat.mul_le_mul_right _ h
                  rw [Nat.add_mul] at this; omega
              exact hin ⟨hi1, hi2⟩)
      have hzc : (Builtin.zeroCells e.zero.cells len).toList = news.take (q * e.sz) := by
        unfold Builtin.zeroCells
        rw [List.take_of_length_le (by rw [hl, hyl, hq]; exact Nat.le_refl _), hnews, hzs]
      have hzq : (Builtin.zeroCells e.zero.cells q).toList = news.take (q * e.sz) := by rw [← hzc, hq]
      refine ⟨_, _, w', ρ, vrun (u := .tuple #[]) (w' := w') ?_, .inl rfl, .iv _ _ (.tup [] #[] rfl (by simp)), hm2, hev⟩
      obtain ⟨len', rfl⟩ : ∃ len', len = len' + 1 := ⟨len - 1, by omega⟩
      simp [Builtin.clear_, h0, run_underlying h3, run_zeroValue hi hz, hzc, hzq, hr]

theorem bytesOf?_spec : ∀ {ys : List IV} {l : List UInt8}, bytesOf? ys = some l → ∃ ns : List Int, ys = ns.map (IV.int .u8) ∧ l = ns.map fun n => UInt8.ofNat n.toNat
  | [], l, h => by simp [bytesOf?] at h; subst h; exact ⟨[], rfl, rfl⟩
  | y :: ys, l, h => by
    have hy : ∃ n, y = .int .u8 n := by
      cases y with
      | int k n => cases k <;> first | exact ⟨n, rfl⟩ | simp [bytesOf?] at h
      | _ => simp [bytesOf?] at h
    obtain ⟨n, rfl⟩ := hy
    simp only [bytesOf?] at h
    cases h1 : bytesOf? ys with
    | none => rw [h1] at h; cases h
    | some l' =>
      rw [h1] at h; cases h
      obtain ⟨ns, rfl, rfl⟩ := bytesOf?_spec h1
      exact ⟨n :: ns, rfl, rfl⟩

theorem push_fold (ns : List Int) : ∀ s : ByteArray, ns.foldl (fun r n => r.push (UInt8.ofNat n.toNat)) s = ⟨s.data ++ (ns.map fun n => UInt8.ofNat n.toNat).toArray⟩ := by
  induction ns with
  | nil => intro s; simp
  | cons n ns ih =>
    intro s
    rw [List.foldl_cons, ih]
    congr 1
    simp [ByteArray.push]

theorem elems_slc {sz : Nat} {x : AV} {ys : List IV} {u : Value} (hx : RepA M ρ E w x u) (h : elems M sz x = some ys) (hns : ∀ s, x ≠ .iv (.str s)) : ∃ A c, u = .slice A ys.length c := by
  cases x with
  | iv y =>
    cases y with
    | sl sz' xs =>
      simp only [elems] at h
      split at h
      · cases h; cases hx with | iv _ _ hx => obtain ⟨A, c, hv, _⟩ := inv_rep_sl hx; exact ⟨A, c, hv⟩
      · cases h
    | str s => exact absurd rfl (hns s)
    | _ => simp [elems] at h
  | nilsl => simp [elems] at h; subst h; obtain ⟨A, hv⟩ := inv_nilsl hx; exact ⟨A, 0, hv⟩
  | msl k off len n =>
    simp only [elems] at h
    cases hr : rowAt M k n with
    | none => rw [hr] at h; cases h
    | some q =>
      obtain ⟨m, T, sz', xs⟩ := q
      rw [hr] at h
      simp only [Option.bind_some] at h
      split at h
      · cases h
        obtain ⟨hM, hn⟩ := rowAt_spec hr
        obtain ⟨g1, A, c, hv, hlc, g2⟩ := msl_spec hx hM hn
        exact ⟨A, c, by rw [hv, List.length_take, List.length_drop, Nat.min_eq_left (by omega)]⟩
      · cases h
  | _ => simp [elems] at h

theorem strOf_sound (hm : MemOk X O w0 M ρ w) {src dst : TypeId} {x : AV} {c : Cls} {v : AV} {M' : List MO} {u : Value} (hx : RepA M ρ (excl X M ρ) w x u) (h : strOf P src dst x M = some (c, v, M')) :
    c = .r ∧ M' = M ∧ ∃ z, (convert src dst u).run P w = .ok z w ∧ RepA M ρ (excl X M ρ) w v z := by
  unfold strOf at h
  split at h
  · rename_i e hd he
    obtain ⟨h3, i, hi, his, hby, hiz, hzs, hsz, hpos⟩ := tElem_spec he
    by_cases hkk : isU8 P e.T = true ∧ x.isStr = false
    · rw [if_pos hkk] at h
      obtain ⟨hk, hns⟩ := hkk
      have hk : tKind P e.T = some (.int .u8) := by
        unfold isU8 at hk
        split at hk <;> first | assumption | cases hk
      have hns : ∀ s, x ≠ .iv (.str s) := by rintro s rfl; simp [AV.isStr] at hns
      · cases hys : elems M 1 x with
        | none => rw [hys] at h; cases h
        | some ys =>
          rw [hys] at h
          simp only [Option.bind_some] at h
          cases hb : bytesOf? ys with
          | none => rw [hb] at h; cases h
          | some l =>
            rw [hb] at h; cases h
            obtain ⟨ns, rfl, rfl⟩ := bytesOf?_spec hb
            obtain ⟨A, cc, rfl⟩ := elems_slc hx hys hns
            obtain ⟨hf, hlen, news, hl, hone, hrep, hcells⟩ := elems_sound (P := P) hm hx hys
            refine ⟨rfl, rfl, _, ?_, .iv _ _ (.str _)⟩
            rw [run_convert_bytes_string w src dst e.T A _ cc h3 (tKind_int hk) (tKind_str hd)]
            have hc := hcells (ns.map (IV.int .u8)).length w rfl (Nat.le_refl _)
            rw [List.take_of_length_le (by omega)] at hc
            have hnews : news = ns.map (Value.int .u8) := by
              apply List.ext_getElem?
              intro p
              by_cases hp : p < ns.length
              · obtain ⟨u, hu, hr⟩ := hrep p (.int .u8 ns[p]) 0 (.int .u8 ns[p]) (by simp [hp]) (by simp [IV.cells])
                simp only [Nat.mul_one, Nat.add_zero] at hu
                cases hr
                rw [hu]; simp [hp]
              · rw [List.getElem?_eq_none (by simp at hl; omega), List.getElem?_eq_none (by simp; omega)]
            subst hnews
            cases A with
            | none =>
              simp [Builtin.firstCells] at hc
              subst hc
              rfl
            | some a =>
              rw [run_bytesToString w a _ cc ns (by simpa [Builtin.firstCells] using hc), push_fold]
              simp
    · rw [if_neg hkk] at h; cases h
  · cases h

end
end Go.Proofs.Ytebegdnebjjnmaa.AM
