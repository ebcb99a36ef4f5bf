
/- The abstract machine, 7: slice expressions, lengths, smallest and greatest, built values. No condition. -/
import Derived.Test.YtebegdnebjjnmaaA6
set_option linter.unusedVariables false
set_option linter.unusedSimpArgs false
namespace Go.Proofs.Ytebegdnebjjnmaa.AM
open Go Go.RowKit

section
variable {P : Program} {X O : Nat → Prop} {w0 : World} {M : List MO} {ρ : Nat → Option Nat} {E : Nat → Prop} {w : World}

/-- A bound, as a value. -/
def BoundIs (x : Option Value) (d : Nat) (l : Int) : Prop := match x with
  | none => l = d
  | some v => ∃ k, v = .int k l

theorem idx_spec {x : AV} {j : Int} {v : Value} (hx : RepA M ρ E w x v) (h : idx x = some j) : ∃ k, v = .int k j := by
  unfold idx at h
  split at h
  · cases h; exact ⟨_, inv_int hx⟩
  · cases h

theorem bound_spec {ev : Operand → AV} {rv : Operand → Value} (hev : ∀ x, RepA M ρ E w (ev x) (rv x)) {x : Option Operand} {d : Nat} {l : Int} (h : bound (x.map ev) d = some l) : BoundIs (x.map rv) d l := by
  cases x with
  | none => simp [bound] at h; exact h.symm
  | some o => simp only [Option.map_some, bound] at h; exact idx_spec (hev o) h



theorem run_bounds_none {isSlice : Bool} {len cap : Nat} {lo hi : Option Value} {l h : Int} (hlo : BoundIs lo 0 l) (hhi : BoundIs hi len h) (h0 : 0 ≤ l) (h1 : l ≤ h) (h2 : h ≤ cap) :
    (Instr.sliceBounds isSlice len cap lo hi none).run P w = .ok (l.toNat, h.toNat, cap) w := by
  have hle : l ≤ (h.toNat : Int) := by omega
  cases hi with
  | none =>
    simp only [BoundIs] at hhi
    subst hhi
    cases lo with
    | none => simp only [BoundIs] at hlo; subst hlo; simp [Instr.sliceBounds]
    | some v => obtain ⟨k, rfl⟩ := hlo; simp [Instr.sliceBounds, run_sliceBound w k l len _ h0 (by omega)]
  | some u =>
    obtain ⟨k2, rfl⟩ := hhi
    cases lo with
    | none => simp only [BoundIs] at hlo; subst hlo; simp [Instr.sliceBounds, run_sliceBound w k2 h cap _ (by omega) h2]
    | some v => obtain ⟨k, rfl⟩ := hlo; simp [Instr.sliceBounds, run_sliceBound w k2 h cap _ (by omega) h2, run_sliceBound w k l h.toNat _ h0 hle]

theorem run_bounds_some {isSlice : Bool} {len cap : Nat} {lo hi : Option Value} {mx : Value} {l h m : Int} (hlo : BoundIs lo 0 l) (hhi : BoundIs hi len h) (hm : ∃ k, mx = .int k m) (hs : hi.isSome = true)
    (h0 : 0 ≤ l) (h1 : l ≤ h) (h2 : h ≤ m) (h3 : m ≤ cap) : (Instr.sliceBounds isSlice len cap lo hi (some mx)).run P w = .ok (l.toNat, h.toNat, m.toNat) w := by
  have hle : l ≤ (h.toNat : Int) := by omega
  have hle2 : h ≤ (m.toNat : Int) := by omega
  obtain ⟨km, rfl⟩ := hm
  cases hi with
  | none => simp at hs
  | some u =>
    obtain ⟨k2, rfl⟩ := hhi
    cases lo with
    | none => simp only [BoundIs] at hlo; subst hlo; simp [Instr.sliceBounds, run_sliceBound w km m cap _ (by omega) h3, run_sliceBound w k2 h m.toNat _ (by omega) hle2]
    | some v => obtain ⟨k, rfl⟩ := hlo; simp [Instr.sliceBounds, run_sliceBound w km m cap _ (by omega) h3, run_sliceBound w k2 h m.toNat _ (by omega) hle2, run_sliceBound w k l h.toNat _ h0 hle]

theorem run_slice_none {t : TypeId} {e : Elem} (ht : tElem P t = some e) {a : Option Addr} {len cap : Nat} {lo hi : Option Value} {l h : Int} (hlo : BoundIs lo 0 l) (hhi : BoundIs hi len h) (h0 : 0 ≤ l) (h1 : l ≤ h) (h2 : h ≤ cap) :
    (Instr.sliceAt t (.slice a len cap) lo hi none).run P w = .ok (.slice (if cap = l.toNat then a else a.map (·.add (l.toNat * e.sz))) (h.toNat - l.toNat) (cap - l.toNat)) w := by
  obtain ⟨h3, i, hi', hs, _⟩ := tElem_spec ht
  simp [Instr.sliceAt, Instr.slice, run_underlying h3, run_bounds_none hlo hhi h0 h1 h2, run_sizeOf hi', hs]

theorem run_slice_some {t : TypeId} {e : Elem} (ht : tElem P t = some e) {a : Option Addr} {len cap : Nat} {lo hi : Option Value} {mx : Value} {l h m : Int} (hlo : BoundIs lo 0 l) (hhi : BoundIs hi len h) (hm : ∃ k, mx = .int k m)
    (hs : hi.isSome = true) (h0 : 0 ≤ l) (h1 : l ≤ h) (h2 : h ≤ m) (h3 : m ≤ cap) :
    (Instr.sliceAt t (.slice a len cap) lo hi (some mx)).run P w = .ok (.slice (if m.toNat = l.toNat then a else a.map (·.add (l.toNat * e.sz))) (h.toNat - l.toNat) (m.toNat - l.toNat)) w := by
  obtain ⟨h4, i, hi', hs', _⟩ := tElem_spec ht
  simp [Instr.sliceAt, Instr.slice, run_underlying h4, run_bounds_some hlo hhi hm hs h0 h1 h2 h3, run_sizeOf hi', hs']

theorem run_slice_str {t : TypeId} (ht : tKind P t = some .str) {s : ByteArray} {lo hi : Option Value} {l h : Int} (hlo : BoundIs lo 0 l) (hhi : BoundIs hi s.size h) (h0 : 0 ≤ l) (h1 : l ≤ h) (h2 : h ≤ s.size) :
    (Instr.sliceAt t (.string s) lo hi none).run P w = .ok (.string (s.extract l.toNat h.toNat)) w := by
  simp [Instr.sliceAt, Instr.slice, run_underlying (tKind_str ht), run_bounds_none hlo hhi h0 h1 h2]

/-- A part of a frozen slice. -/
theorem rep_sub {sz : Nat} {xs : List IV} {a : Option Addr} {cap : Nat} (h : RepI E w (.sl sz xs) (.slice a xs.length cap)) (l n m : Nat) (h1 : l + n ≤ m) (h2 : l + n ≤ xs.length) (h3 : m ≤ cap) {sz' : Nat} (hsz : sz = sz' ∨ xs = []) :
    RepI E w (.sl sz ((xs.drop l).take n)) (.slice (if m = l then a else a.map (·.add (l * sz'))) n (m - l)) := by
  obtain ⟨A, c, hv, hc, hh⟩ := inv_rep_sl h
  cases hv
  have hlen : ((xs.drop l).take n).length = n := by rw [List.length_take, List.length_drop]; omega
  rcases Nat.eq_zero_or_pos n with h0 | h0
  · subst h0; simp only [List.take_zero]; exact .sl0 _ _ _
  rcases hh with rfl | ⟨b, o, rfl, hE, hb, hs, hcell⟩
  · simp at h2; omega
  · rcases hsz with rfl | rfl
    · have hne : m ≠ l := by omega
      rw [if_neg hne, Option.map_some, Addr.add_lit]
      have := rep_sl_mk (E := E) (w := w) (sz := sz) (xs := (xs.drop l).take n) (b := b) (o := o + l * sz) (c := m - l) (by rw [hlen]; omega) hE hb
        (fun i x hx => hs _ x (getElem?_drop_take _ _ _ _ _ hx).1)
        (fun i x j y hx hy => by
          obtain ⟨u, h1, h2⟩ := hcell _ x j y (getElem?_drop_take _ _ _ _ _ hx).1 hy
          refine ⟨u, ?_, h2⟩
          rw [← h1, Nat.add_mul, Nat.add_assoc, Nat.add_assoc])
      rw [hlen] at this
      exact this
    · simp at h2; omega

theorem sliceAV_sound (hm : MemOk X O w0 M ρ w) {t : TypeId} {x : Operand} {lo hi mx : Option Operand} {r : AV} {ev : Operand → AV} {rv : Operand → Value} (hev : ∀ x, RepA M ρ (excl X M ρ) w (ev x) (rv x))
    (h : sliceAV P t M (ev x) (lo.map ev) (hi.map ev) (mx.map ev) = some r) (hmx : mx.isSome = true → hi.isSome = true) :
    ∃ u, (Instr.sliceAt t (rv x) (lo.map rv) (hi.map rv) (mx.map rv)).run P w = .ok u w ∧ RepA M ρ (excl X M ρ) w r u := by
  have hx := hev x
  unfold sliceAV at h
  split at h
  · -- a string
    rename_i s hxs
    rw [hxs] at hx
    rw [inv_str hx]
    split at h
    · rename_i hk
      have hk : tKind P t = some .str := by
        cases ht : tKind P t with
        | none => rw [ht] at hk; cases hk
        | some d => cases d <;> rw [ht] at hk <;> first | rfl | cases hk
      cases mx with
      | some m => simp at h
      | none =>
        simp only [Option.map_none] at h
        cases hl : bound (lo.map ev) 0 with
        | none => rw [hl] at h; cases h
        | some l =>
          cases hh : bound (hi.map ev) s.size with
          | none => rw [hl, hh] at h; cases h
          | some h' =>
            rw [hl, hh] at h
            simp only [Option.bind_some] at h
            by_cases hc : 0 ≤ l ∧ l ≤ h' ∧ h' ≤ (s.size : Int)
            · rw [if_pos hc] at h
              cases h
              exact ⟨_, run_slice_str hk (bound_spec hev hl) (bound_spec hev hh) hc.1 hc.2.1 hc.2.2, .iv _ _ (.str _)⟩
            · rw [if_neg hc] at h; cases h
    · cases h
  · -- a frozen slice
    rename_i sz xs hxs
    rw [hxs] at hx
    cases hx with
    | iv _ v hx =>
      obtain ⟨A, c, hv, hc, _⟩ := inv_rep_sl hx
      rw [hv] at hx ⊢
      cases he : tElem P t with
      | none => rw [he] at h; cases h
      | some e =>
        cases hl : bound (lo.map ev) 0 with
        | none => rw [he, hl] at h; cases h
        | some l =>
          cases hh : bound (hi.map ev) xs.length with
          | none => rw [he, hl, hh] at h; cases h
          | some h' =>
            rw [he, hl, hh] at h
            simp only [Option.bind_some] at h
            cases mx with
            | none =>
              simp only [Option.map_none] at h
              split at h
              · rename_i hc'
                cases h
                obtain ⟨hsz, h0, h1, h2⟩ := hc'
                refine ⟨_, run_slice_none he (bound_spec hev hl) (bound_spec hev hh) h0 h1 (by omega), .iv _ _ ?_⟩
                exact rep_sub hx l.toNat (h'.toNat - l.toNat) c (by omega) (by omega) (Nat.le_refl _) hsz
              · cases h
            | some m =>
              simp only [Option.map_some] at h
              cases hm' : idx (ev m) with
              | none => rw [hm'] at h; cases h
              | some m' =>
                rw [hm'] at h
                simp only [Option.bind_some] at h
                split at h
                · rename_i hc'
                  obtain ⟨hsz, h0, h1, h2, h3⟩ := hc'
                  have hrun := run_slice_some (P := P) (w := w) (a := A) (cap := c) he (bound_spec hev hl) (bound_spec hev hh) (idx_spec (hev m) hm') (by simpa using hmx rfl) h0 h1 h2 (by omega)
                  cases h
                  refine ⟨_, hrun, ?_⟩
                  split
                  · rename_i e1
                    subst e1
                    have e2 : h'.toNat - m'.toNat = 0 := by omega
                    rw [e2, Nat.sub_self]; exact .nilsl _
                  · exact .iv _ _ (rep_sub hx l.toNat (h'.toNat - l.toNat) m'.toNat (by omega) (by omega) (by omega) hsz)
                · cases h
  · -- a row of the call's own
    rename_i k off len n hxs
    rw [hxs] at hx
    cases he : tElem P t with
    | none => rw [he] at h; cases h
    | some e =>
      cases hr : rowAt M k n with
      | none => rw [he, hr] at h; cases h
      | some q =>
        obtain ⟨m0, T, sz, xs⟩ := q
        obtain ⟨hM, hn⟩ := rowAt_spec hr
        obtain ⟨g1, A, c, hv, hlc, g2⟩ := msl_spec hx hM hn
        rw [hv]
        cases hl : bound (lo.map ev) 0 with
        | none => rw [he, hr, hl] at h; cases h
        | some l =>
          cases hh : bound (hi.map ev) len with
          | none => rw [he, hr, hl, hh] at h; cases h
          | some h' =>
            rw [he, hr, hl, hh] at h
            simp only [Option.bind_some] at h
            cases mx with
            | none =>
              simp only [Option.map_none] at h
              split at h
              · rename_i hc'
                cases h
                obtain ⟨hsz, h0, h1, h2⟩ := hc'
                refine ⟨_, run_slice_none he (bound_spec hev hl) (bound_spec hev hh) h0 h1 (by omega), ?_⟩
                refine .msl k _ _ n _ m0 T sz xs hM (by omega) ⟨_, _, _, rfl⟩ (fun _ => ⟨by omega, _, _, rfl, by omega, ?_⟩)
                cases hk : ρ k with
                | none => rw [hk] at g2; exact ⟨by omega, g2.2⟩
                | some b =>
                  rw [hk] at g2
                  obtain ⟨g3, arr, fz, g4, g5⟩ := g2
                  refine ⟨fun hpos => ?_, arr, fz, g4, ?_⟩
                  · have hne : c ≠ l.toNat := by omega
                    rw [if_neg hne, g3 (by omega), Option.map_some, Addr.add_lit, ← hsz, Nat.add_mul]
                  · rw [show off + l.toNat + (c - l.toNat) = off + c from by omega]; exact g5
              · cases h
            | some m =>
              simp only [Option.map_some] at h
              cases hm' : idx (ev m) with
              | none => rw [hm'] at h; cases h
              | some m' =>
                rw [hm'] at h
                simp only [Option.bind_some] at h
                split at h
                · rename_i hc'
                  obtain ⟨hsz, h0, h1, h2, h3⟩ := hc'
                  subst h1 h2
                  have hrun := run_slice_some (P := P) (w := w) (a := A) (cap := c) he (bound_spec hev hl) (bound_spec hev hh) (idx_spec (hev m) hm') (by simpa using hmx rfl) h0 (Int.le_refl _) (Int.le_refl _) (by omega)
                  cases h
                  refine ⟨_, hrun, ?_⟩
                  rw [Nat.sub_self]; exact .nilsl _
                · cases h
  · -- none
    rename_i hxs
    rw [hxs] at hx
    obtain ⟨A, hv⟩ := inv_nilsl hx
    rw [hv]
    cases he : tElem P t with
    | none => rw [he] at h; cases h
    | some e =>
      cases hl : bound (lo.map ev) 0 with
      | none => rw [he, hl] at h; cases h
      | some l =>
        cases hh : bound (hi.map ev) 0 with
        | none => rw [he, hl, hh] at h; cases h
        | some h' =>
          rw [he, hl, hh] at h
          simp only [Option.bind_some] at h
          cases mx with
          | none =>
            simp only [Option.map_none] at h
            split at h
            · rename_i hc'
              cases h
              obtain ⟨h0, h1⟩ := hc'
              subst h0 h1
              exact ⟨_, run_slice_none he (bound_spec hev hl) (bound_spec hev hh) (by omega) (by omega) (by omega), .nilsl _⟩
            · cases h
          | some m =>
            simp only [Option.map_some] at h
            cases hm' : idx (ev m) with
            | none => rw [hm'] at h; cases h
            | some m' =>
              rw [hm'] at h
              simp only [Option.bind_some] at h
              split at h
              · rename_i hc'
                obtain ⟨h0, h1, h2⟩ := hc'
                subst h0 h1 h2
                have hrun := run_slice_some (P := P) (w := w) (a := A) (cap := 0) he (bound_spec hev hl) (bound_spec hev hh) (idx_spec (hev m) hm') (by simpa using hmx rfl) (by omega) (by omega) (by omega) (by omega)
                cases h
                exact ⟨_, hrun, .nilsl _⟩
              · cases h
  · cases h

theorem lenAV_sound (hm : MemOk X O w0 M ρ w) {x : AV} {n : Nat} {v : Value} (hx : RepA M ρ (excl X M ρ) w x v) (h : lenAV M x = some n) : (∃ A c, v = .slice A n c) ∨ ∃ s, x = .iv (.str s) ∧ v = .string s ∧ n = s.size := by
  unfold lenAV at h
  split at h
  · cases h
    cases hx with
    | iv _ _ hx => obtain ⟨A, c, hv, _⟩ := inv_rep_sl hx; exact .inl ⟨A, c, hv⟩
  · cases h; obtain ⟨A, hv⟩ := inv_nilsl hx; exact .inl ⟨A, 0, hv⟩
  · rename_i k off len n'
    cases hr : rowAt M k n' with
    | none => rw [hr] at h; cases h
    | some q =>
      obtain ⟨m0, T, sz, xs⟩ := q
      rw [hr] at h
      simp only [Option.bind_some] at h
      split at h
      · cases h
        obtain ⟨hM, hn⟩ := rowAt_spec hr
        obtain ⟨_, A, c, hv, _⟩ := msl_spec hx hM hn
        exact .inl ⟨A, c, hv⟩
      · cases h
  · cases h; exact .inr ⟨_, rfl, inv_str hx, rfl⟩
  · cases h

theorem run_len_slc {t : TypeId} (h : tKind P t = some .slc) (ts : Array TypeId) (ht : ts[0]? = some t) (ty : TypeId) (A : Option Addr) (n c : Nat) : (Builtin.len_ ts ty #[.slice A n c]).run P w = .ok (.int .i64 n) w := by
  obtain ⟨e, he⟩ := tKind_slc h
  simp [Builtin.len_, ht, run_underlying he, goInt]

theorem run_len_str {t : TypeId} (h : tKind P t = some .str) (ts : Array TypeId) (ht : ts[0]? = some t) (ty : TypeId) (s : ByteArray) : (Builtin.len_ ts ty #[.string s]).run P w = .ok (.int .i64 s.size) w := by
  simp [Builtin.len_, ht, run_underlying (tKind_str h), goInt]

theorem min_sound {k : IntKind} : ∀ (l : List AV) (vs : List Value) (a c : Int), l.length = vs.length → (∀ (i : Nat) (x : AV) (v : Value), l[i]? = some x → vs[i]? = some v → RepA M ρ E w x v) → minAll k a l = some c →
    (vs.foldlM Builtin.min2 (.int k a)).run P w = .ok (.int k c) w
  | [], [], a, c, _, _, h => by simp [minAll] at h; subst h; simp
  | x :: l, v :: vs, a, c, hl, hr, h => by
    have hx : ∃ k' b, x = .iv (.int k' b) := by
      cases x with
      | iv y => cases y with
        | int k' b => exact ⟨k', b, rfl⟩
        | _ => simp [minAll] at h
      | _ => simp [minAll] at h
    obtain ⟨k', b, rfl⟩ := hx
    simp only [minAll] at h
    split at h
    · rename_i e; subst e
      have hv := inv_int (hr 0 _ _ rfl rfl)
      subst hv
      have ih := min_sound l vs (min a b) c (by simpa using hl) (fun i x v h1 h2 => hr (i + 1) x v h1 h2) h
      simp only [List.foldlM_cons, Builtin.min2, pure_bind]
      rw [show (if b < a then b else a) = min a b from by rw [Int.min_def]; split <;> split <;> omega]
      exact ih
    · cases h
  | [], _ :: _, _, _, hl, _, _ => by simp at hl
  | _ :: _, [], _, _, hl, _, _ => by simp at hl

theorem max_sound {k : IntKind} : ∀ (l : List AV) (vs : List Value) (a c : Int), l.length = vs.length → (∀ (i : Nat) (x : AV) (v : Value), l[i]? = some x → vs[i]? = some v → RepA M ρ E w x v) → maxAll k a l = some c →
    (vs.foldlM Builtin.max2 (.int k a)).run P w = .ok (.int k c) w
  | [], [], a, c, _, _, h => by simp [maxAll] at h; subst h; simp
  | x :: l, v :: vs, a, c, hl, hr, h => by
    have hx : ∃ k' b, x = .iv (.int k' b) := by
      cases x with
      | iv y => cases y with
        | int k' b => exact ⟨k', b, rfl⟩
        | _ => simp [maxAll] at h
      | _ => simp [maxAll] at h
    obtain ⟨k', b, rfl⟩ := hx
    simp only [maxAll] at h
    split at h
    · rename_i e; subst e
      have hv := inv_int (hr 0 _ _ rfl rfl)
      subst hv
      have ih := max_sound l vs (max a b) c (by simpa using hl) (fun i x v h1 h2 => hr (i + 1) x v h1 h2) h
      simp only [List.foldlM_cons, Builtin.max2, pure_bind]
      rw [show (if b > a then b else a) = max a b from by rw [Int.max_def]; split <;> split <;> omega]
      exact ih
    · cases h
  | [], _ :: _, _, _, hl, _, _ => by simp at hl
  | _ :: _, [], _, _, hl, _, _ => by simp at hl

end
end Go.Proofs.Ytebegdnebjjnmaa.AM
