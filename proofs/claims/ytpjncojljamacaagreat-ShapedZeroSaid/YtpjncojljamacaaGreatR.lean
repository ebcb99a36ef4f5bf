
/- What comes in by a row's reading, as values of the machine AM. No condition. -/
import Derived.Test.YtpjncojljamacaaGreatAC
import Derived.WalkKit
import Derived.ProofKit
import Derived.OpenShut
import Derived.ShutString
import Derived.ChangeOld
import Derived.Below
import Derived.Deep.Grids
set_option linter.unusedVariables false
set_option linter.unusedSimpArgs false
namespace Go.Proofs.YtpjncojljamacaaGreat.AM
open Go Go.ChangeShapes Go.WideShapes Go.ChangeAt Go.RowKit

section
variable {H : Type} {enc : TypeId × Value → H} {P : Program} {w : World} {held : Bool} {t e : TypeId} {v : Value} {d : DataW H} {ps : List MemPlace}
def Nob : Nat → Prop := fun _ => False

theorem cell_spot {a : Addr} {u : Value} (h : w.cell? a = some u) : a.spot = none ∧ a.block < w.heap.size := by
  unfold World.cell? at h
  split at h
  · rename_i hb
    refine ⟨?_, (Array.getElem?_eq_some_iff.1 hb).1⟩
    split at h
    · cases h
    · rename_i hs; cases hsp : a.spot with
      | none => rfl
      | some x => rw [hsp] at hs; simp at hs
  · cases h

theorem addr_add (b o i : Nat) : (Addr.mk b o none).add i = ⟨b, o + i, none⟩ := by
  by_cases h : i = 0
  · subst h; simp [Addr.add]
  · simp [Addr.add, h]
theorem rep_row {α : Type} (f : α → IV) (g : α → Value) (hfg : ∀ x, RepI Nob w (f x) (g x)) (hcl : ∀ x, (f x).cells = [f x]) (hone : ∀ x, (f x).one = true) (L : List α) (a : Addr) (cap : Nat) (hc : L.length ≤ cap) (hcell : ∀ (i : Nat) (x : α), L[i]? = some x → w.cell? (a.add i) = some (g x)) :
    RepI Nob w (.sl 1 (L.map f)) (.slice (some a) L.length cap) := by
  cases L with
  | nil => exact .sl0 1 _ _
  | cons x0 L0 =>
    have h0 := hcell 0 x0 rfl
    obtain ⟨b, o, sp⟩ := a
    have hsp : sp = none ∧ b < w.heap.size := by
      by_cases h : sp = none
      · subst h
        rw [addr_add] at h0
        exact ⟨rfl, (cell_spot h0).2⟩
      · exfalso
        have := (cell_spot h0).1
        simp [Addr.add] at this
        exact h this
    obtain ⟨rfl, h2⟩ := hsp
    have := RepI.sl (E := Nob) (w := w) 1 ((x0 :: L0).map f) b o cap (fun i j => g ((x0 :: L0).getD i x0)) (by simpa using hc) (fun h => h) h2
      (fun i x hx => by
        rw [List.getElem?_map] at hx
        cases hy : (x0 :: L0)[i]? with
        | none => rw [hy] at hx; cases hx
        | some y => rw [hy] at hx; cases hx; simp [IV.fits, hcl, hone])
      (fun i j hi hj => by
        have hj0 : j = 0 := by omega
        subst hj0
        have hi' : i < (x0 :: L0).length := by simpa using hi
        have hx : (x0 :: L0)[i]? = some ((x0 :: L0).getD i x0) := by simp [List.getD, List.getElem?_eq_getElem hi']
        have := hcell i _ hx
        rw [addr_add] at this
        simpa using this)
      (fun i x j y hx hy => by
        rw [List.getElem?_map] at hx
        cases hz : (x0 :: L0)[i]? with
        | none => rw [hz] at hx; cases hx
        | some z =>
          rw [hz] at hx; cases hx
          rw [hcl] at hy
          have hj0 : j = 0 := by have := lt_of_get hy; simp at this; omega
          subst hj0
          simp at hy
          have hgz : (x0 :: L0).getD i x0 = z := by simp [List.getD, hz]
          rw [hgz, ← hy]
          exact hfg z)
    simpa using this

theorem iv_bools (ht : P.underlying t = some (.slice e)) (he : P.underlying e = some .bool) (hc : P.cellsOf e = 1) (h : DataW.Trod enc P w 0 (fun _ => true) held t v d ps) (hv : ∃ a len cap, v = .slice a len cap) :
    ∃ l : List Bool, l.length ≤ maxLen ∧ RepI Nob w (.sl 1 (l.map .bool)) v := by
  obtain ⟨a, len, cap, rfl⟩ := hv
  obtain ⟨fuel, hf⟩ := h
  rcases Go.Deep.open_bools ht he hc hf with ⟨hcs, _⟩ | ⟨x, l, c, B, hcs, _, hl, hm, _, hcell⟩
  · simp [Value.cells] at hcs
    obtain ⟨rfl, rfl, rfl⟩ := hcs
    exact ⟨[], by simp, .sl0 1 _ _⟩
  · simp [Value.cells] at hcs
    obtain ⟨rfl, rfl, rfl⟩ := hcs
    refine ⟨(List.range len).map B, by simp; omega, ?_⟩
    have := rep_row (w := w) (fun b : Bool => IV.bool b) (fun b => Value.bool b) (fun b => .bool b) (fun _ => rfl) (fun _ => rfl) ((List.range len).map B) x cap (by simpa using hl) (fun i b hi => by
      rw [List.getElem?_map] at hi
      by_cases hlt : i < len
      · rw [List.getElem?_range hlt] at hi; cases hi; exact hcell i (by omega)
      · rw [List.getElem?_eq_none (by simpa using hlt)] at hi; cases hi)
    simpa using this

theorem iv_ints {k : IntKind} (ht : P.underlying t = some (.slice e)) (he : P.underlying e = some (.int k)) (hc : P.cellsOf e = 1) (h : DataW.Trod enc P w 0 (fun _ => true) held t v d ps) (hv : ∃ a len cap, v = .slice a len cap) :
    ∃ l : List Int, l.length ≤ maxLen ∧ (∀ n ∈ l, (Lit.int k n).wf = true) ∧ RepI Nob w (.sl 1 (l.map (IV.int k))) v := by
  obtain ⟨a, len, cap, rfl⟩ := hv
  obtain ⟨fuel, hf⟩ := h
  rcases open_ints ht he hc hf with ⟨hcs, _⟩ | ⟨x, l, c, zs, hcs, _, hl, hm, hz, _, hcell, hwz⟩
  · simp [Value.cells] at hcs
    obtain ⟨rfl, rfl, rfl⟩ := hcs
    exact ⟨[], by simp, by simp, .sl0 1 _ _⟩
  · simp [Value.cells] at hcs
    obtain ⟨rfl, rfl, rfl⟩ := hcs
    have hz' : zs.length = cap := by simpa using hz
    have hlen : (zs.take len).length = len := by simp; omega
    refine ⟨zs.take len, by rw [hlen]; omega, fun n hn => hwz n (List.mem_of_mem_take hn), ?_⟩
    have := rep_row (w := w) (fun n : Int => IV.int k n) (fun n => Value.int k n) (fun n => .int k n) (fun _ => rfl) (fun _ => rfl) (zs.take len) x cap (by omega) (fun i n hi => by
      have hlt := lt_of_get hi
      rw [List.getElem?_take, if_pos (by omega)] at hi
      have := hcell i (by omega)
      simpa [List.getD, hi] using this)
    rwa [hlen] at this

def intOf : Value → Int
  | .int _ n => n
  | _ => 0
theorem iv_arr {k : IntKind} {n : Nat} {r : Reach} {b0 : Nat} (ht : P.underlying t = some (.array n e)) (he : P.underlying e = some (.int k)) (hc : P.cellsOf e = 1) (hct : P.cellsOf t = n) (h : DataW.Trod enc P w 0 (fun _ => true) held t v d ps) (hval : Value.okWide P w r b0 t v) :
    ∃ l : List Int, l.length = n ∧ (∀ m ∈ l, (Lit.int k m).wf = true) ∧ RepI Nob w (.agg (l.map (IV.int k))) v := by
  obtain ⟨cs, rfl⟩ : ∃ cs, v = .agg cs := by
    simp only [Value.okWide, ht] at hval
    cases v <;> simp_all [Cell.okWide, Cell.ok]
  obtain ⟨fuel, hf⟩ := h
  obtain ⟨xs, m, _, _, hlen, hxs, hall⟩ := DataW.trod_array ht hf
  have hcs : (Value.agg cs).cells.toList = cs.toList := by simp [Value.cells]
  rw [hcs] at hlen hall
  rw [hct] at hlen
  have hel : ∀ i, i < n → ∃ z, cs.toList[i]? = some (.int k z) ∧ (Lit.int k z).wf = true := by
    intro i hi
    have h1 := hall i hi
    rw [hc, Nat.mul_one] at h1
    have hx : xs[i]? = some (xs[i]'(by omega)) := List.getElem?_eq_getElem (by omega)
    have hi2 : i < cs.toList.length := by omega
    rw [hx, List.drop_eq_getElem_cons hi2, List.take_succ_cons, List.take_zero] at h1
    obtain ⟨z, h2, _, h3⟩ := DataW.trod_int he h1
    exact ⟨z, by rw [List.getElem?_eq_getElem hi2]; simp only [List.cons.injEq, and_true] at h2; rw [h2], h3⟩
  refine ⟨cs.toList.map intOf, by simpa using hlen, fun z hz => ?_, ?_⟩
  · obtain ⟨u, hu, rfl⟩ := List.mem_map.1 hz
    obtain ⟨i, hi⟩ := List.getElem?_of_mem hu
    have hil := lt_of_get hi
    obtain ⟨z, h1, h2⟩ := hel i (by omega)
    rw [hi] at h1; cases h1; exact h2
  · refine .agg _ cs (by simp) (fun i y u hy hu => ?_)
    have hu' : cs.toList[i]? = some u := by rw [Array.getElem?_toList]; exact hu
    have hil := lt_of_get hu'
    obtain ⟨z, h1, h2⟩ := hel i (by omega)
    rw [hu'] at h1; cases h1
    rw [List.getElem?_map, List.getElem?_map, hu'] at hy
    cases hy
    exact .int k z
end
end Go.Proofs.YtpjncojljamacaaGreat.AM
set_option linter.unusedVariables false
set_option linter.unusedSimpArgs false
namespace Go.Proofs.YtpjncojljamacaaGreat.AM
open Go Go.ChangeShapes Go.WideShapes Go.ChangeAt Go.RowKit

def mk1 : List IV → IV
  | [y] => y
  | ys => .agg ys
def Shp (P : Program) : Nat → TypeId → List IV → Prop
  | 0, _, _ => False
  | n + 1, t, ys => match P.underlying t with
    | some .bool => ∃ b, ys = [.bool b]
    | some (.int k) => ∃ z, ys = [.int k z] ∧ (Lit.int k z).wf = true
    | some .string => ∃ s : ByteArray, ys = [.str s] ∧ s.size ≤ maxLen
    | some (.slice e) => ∃ xs : List IV, ys = [.sl (P.cellsOf e) xs] ∧ xs.length ≤ maxLen ∧ ∀ x ∈ xs, x = mk1 x.cells ∧ x.fits (P.cellsOf e) = true ∧ Shp P n e x.cells
    | some (.struct fs) => ys.length = P.cellsOf t ∧ ∀ f ∈ fs.toList, Shp P n f.type ((ys.drop f.offset).take (P.cellsOf f.type))
    | some (.array m e) => ys.length = P.cellsOf t ∧ ∀ i, i < m → Shp P n e ((ys.drop (i * P.cellsOf e)).take (P.cellsOf e))
    | _ => False
def layOk (P : Program) : Nat → List (Nat × TypeId) → Nat → Bool
  | o, [], e => o == e
  | o, (f, t) :: r, e => f == o && layOk P (o + P.cellsOf t) r e
def plainT (P : Program) : Nat → TypeId → Bool
  | 0, _ => false
  | n + 1, t => match P.underlying t with
    | some .bool => true
    | some (.int _) => true
    | some .string => true
    | some (.slice e) => decide (0 < P.cellsOf e) && plainT P n e
    | some (.struct fs) => layOk P 0 (fs.toList.map fun f => (f.offset, f.type)) (P.cellsOf t) && fs.toList.all fun f => plainT P n f.type
    | some (.array m e) => layOk P 0 ((List.range m).map fun i => (i * P.cellsOf e, e)) (P.cellsOf t) && plainT P n e
    | _ => false

section
variable {H : Type} {enc : TypeId × Value → H} {P : Program} {w : World} {held : Bool}
structure Good (P : Program) (w : World) (n : Nat) (t : TypeId) (ys : List IV) (cs : List Value) : Prop where
  shp : Shp P n t ys
  len : ys.length = cs.length
  rep : ∀ (i : Nat) (y : IV) (v : Value), ys[i]? = some y → cs[i]? = some v → RepI Nob w y v
  one : ∀ y ∈ ys, y.one = true
theorem rep1 {y : IV} {v : Value} (h : RepI Nob w y v) : ∀ (i : Nat) (y' : IV) (v' : Value), [y][i]? = some y' → [v][i]? = some v' → RepI Nob w y' v' := by
  intro i y' v' h1 h2
  cases i with
  | zero => cases h1; cases h2; exact h
  | succ i => cases h1
theorem layOk_le : ∀ {l : List (Nat × TypeId)} {o e : Nat}, layOk P o l e = true → o ≤ e
  | [], o, e, h => by simp only [layOk, beq_iff_eq] at h; omega
  | (f, t) :: r, o, e, h => by
    simp only [layOk, Bool.and_eq_true] at h
    have := layOk_le h.2; omega
theorem parts_good {n : Nat} {cs : List Value} {e : Nat} (he : e ≤ cs.length) : ∀ (l : List (Nat × TypeId)) (o : Nat), layOk P o l e = true → (∀ p ∈ l, ∃ ys, Good P w n p.2 ys ((cs.drop p.1).take (P.cellsOf p.2))) →
    ∃ ys : List IV, ys.length = e - o ∧ (∀ (i : Nat) (y : IV) (v : Value), ys[i]? = some y → cs[o + i]? = some v → RepI Nob w y v) ∧ (∀ y ∈ ys, y.one = true) ∧ ∀ p ∈ l, o ≤ p.1 ∧ Shp P n p.2 ((ys.drop (p.1 - o)).take (P.cellsOf p.2))
  | [], o, h, _ => by
    simp only [layOk, beq_iff_eq] at h
    exact ⟨[], by simp; omega, by simp, by simp, by simp⟩
  | (f, t) :: r, o, h, hg => by
    simp only [layOk, Bool.and_eq_true, beq_iff_eq] at h
    obtain ⟨hf, h⟩ := h
    subst hf
    have hle := layOk_le h
    obtain ⟨ys, gy⟩ := hg (f, t) (by simp)
    dsimp only at gy
    have hyl : ys.length = P.cellsOf t := by rw [gy.len, List.length_take, List.length_drop]; omega
    obtain ⟨zs, h1, h2, h3, h4⟩ := parts_good he r _ h (fun p hp => hg p (by simp [hp]))
    refine ⟨ys ++ zs, by rw [List.length_append]; omega, fun i y v hy hv => ?_, fun y hy => ?_, fun p hp => ?_⟩
    · by_cases hi : i < ys.length
      · rw [List.getElem?_append_left hi] at hy
        refine gy.rep i y v hy ?_
        rw [List.getElem?_take, if_pos (by omega), List.getElem?_drop]; exact hv
      · rw [List.getElem?_append_right (by omega)] at hy
        refine h2 _ y v hy ?_
        rw [show f + P.cellsOf t + (i - ys.length) = f + i from by omega]; exact hv
    · rcases List.mem_append.1 hy with hy | hy
      · exact gy.one y hy
      · exact h3 y hy
    · rcases List.mem_cons.1 hp with rfl | hp
      · refine ⟨Nat.le_refl _, ?_⟩
        dsimp only
        rw [Nat.sub_self, List.drop_zero, List.take_append_of_le_length (by omega), List.take_of_length_le (by omega)]
        exact gy.shp
      · obtain ⟨h5, h6⟩ := h4 p hp
        refine ⟨by omega, ?_⟩
        rw [show p.1 - f = ys.length + (p.1 - (f + P.cellsOf t)) from by omega, ← List.drop_drop, List.drop_left]
        exact h6

theorem mk1_cells {ys : List IV} (h : ∀ y ∈ ys, y.one = true) : (mk1 ys).cells = ys := by
  match ys with
  | [] => rfl
  | [y] =>
    have := h y (by simp)
    cases y <;> first | rfl | cases this
  | _ :: _ :: _ => rfl
theorem cells_get {base : Nat} {a : Addr} {n : Nat} {cs : List Value} (h : w.cells? base a n = some cs) : cs.length = n ∧ ∀ j, j < n → w.cell? (a.add j) = cs[j]? := by
  unfold World.cells? at h
  split at h
  · have hl := mapM_some_length h
    rw [List.length_range] at hl
    refine ⟨hl.symm ▸ rfl, fun j hj => ?_⟩
    exact mapM_some_get h j j (by simp [hj])
  · cases h
theorem add_add (b o i j : Nat) : ((Addr.mk b o none).add i).add j = ⟨b, o + (i + j), none⟩ := by
  rw [addr_add, addr_add, Nat.add_assoc]

theorem open_any : ∀ (n : Nat) (t : TypeId) (fuel : Nat) (cs : List Value) (x : DataW H × List MemPlace), plainT P n t = true → DataW.trod enc P w 0 (fun _ => true) held fuel t cs = some x → ∃ ys, Good P w n t ys cs
  | 0, t, fuel, cs, x, h, _ => by cases h
  | n + 1, t, fuel, cs, x, h, ht => by
    unfold plainT at h
    split at h
    · rename_i hu
      obtain ⟨b, rfl, _⟩ := DataW.trod_bool hu ht
      exact ⟨[.bool b], by simp only [Shp, hu]; exact ⟨b, rfl⟩, rfl, rep1 (.bool b), by simp [IV.one]⟩
    · rename_i k hu
      obtain ⟨z, rfl, _, hz⟩ := DataW.trod_int hu ht
      exact ⟨[.int k z], by simp only [Shp, hu]; exact ⟨z, rfl, hz⟩, rfl, rep1 (.int k z), by simp [IV.one]⟩
    · rename_i hu
      obtain ⟨s, rfl, _, hz⟩ := DataW.trod_string hu ht
      exact ⟨[.str s], by simp only [Shp, hu]; exact ⟨s, rfl, hz⟩, rfl, rep1 (.str s), by simp [IV.one]⟩
    · rename_i e hu
      simp only [Bool.and_eq_true, decide_eq_true_eq] at h
      obtain ⟨hz, h⟩ := h
      rcases DataW.trod_slice hu ht with ⟨rfl, _⟩ | ⟨a, len, cap, elems, rest, m, _, rfl, _, _, hlc, hcm, hel, hi, _, _⟩
      · exact ⟨[.sl (P.cellsOf e) []], by simp only [Shp, hu]; exact ⟨[], rfl, by simp, by simp⟩, rfl, rep1 (.sl0 _ _ _), by simp [IV.one]⟩
      · have each : ∀ i, i < len → ∃ (cs : List Value) (ys : List IV), w.cells? 0 (a.add (i * P.cellsOf e)) (P.cellsOf e) = some cs ∧ Good P w n e ys cs := by
          intro i hil
          have h1 := hi i hil
          rw [List.getElem?_eq_getElem (by omega)] at h1
          obtain ⟨cs, h2, h3⟩ := option_bind_some h1
          obtain ⟨ys, g⟩ := open_any n e _ _ _ h h3
          exact ⟨cs, ys, h2, g⟩
        rcases Nat.eq_zero_or_pos len with h0 | h0
        · subst h0
          exact ⟨[.sl (P.cellsOf e) []], by simp only [Shp, hu]; exact ⟨[], rfl, by simp, by simp⟩, rfl, rep1 (.sl0 _ _ _), by simp [IV.one]⟩
        · obtain ⟨b, o, sp⟩ := a
          obtain ⟨cs0, ys0, hc0, _⟩ := each 0 h0
          obtain ⟨hl0, hg0⟩ := cells_get hc0
          have hcell : w.cell? ((Addr.mk b o sp).add 0) = cs0[0]? := by
            have := hg0 0 hz
            simpa [Addr.add] using this
          rw [List.getElem?_eq_getElem (by omega)] at hcell
          obtain ⟨hsp, hb⟩ := cell_spot hcell
          have hsp' : sp = none := by simpa [Addr.add] using hsp
          have hb' : b < w.heap.size := by simpa [Addr.add] using hb
          subst hsp'
          have pick : ∀ i : Nat, ∃ x : IV, i < len → x = mk1 x.cells ∧ x.fits (P.cellsOf e) = true ∧ Shp P n e x.cells ∧ ∀ (j : Nat) (y : IV), x.cells[j]? = some y → ∃ v, w.cell? ⟨b, o + (i * P.cellsOf e + j), none⟩ = some v ∧ RepI Nob w y v := by
            intro i
            by_cases hil : i < len
            · obtain ⟨cs, ys, hc, g⟩ := each i hil
              obtain ⟨hl, hg⟩ := cells_get hc
              refine ⟨mk1 ys, fun _ => ?_⟩
              rw [mk1_cells g.one]
              refine ⟨rfl, ?_, g.shp, fun j y hy => ?_⟩
              · unfold IV.fits
                rw [mk1_cells g.one, Bool.and_eq_true, beq_iff_eq, List.all_eq_true]
                exact ⟨by rw [g.len, hl], g.one⟩
              · have hj := lt_of_get hy
                have h5 := hg j (by rw [g.len, hl] at hj; exact hj)
                rw [add_add] at h5
                have hjc : j < cs.length := by rw [← g.len]; exact hj
                rw [List.getElem?_eq_getElem hjc] at h5
                exact ⟨cs[j], h5, g.rep j y _ hy (List.getElem?_eq_getElem hjc)⟩
            · exact ⟨.nilp, fun hh => absurd hh hil⟩
          obtain ⟨G, hG⟩ : ∃ G : Nat → IV, ∀ i, i < len → G i = mk1 (G i).cells ∧ (G i).fits (P.cellsOf e) = true ∧ Shp P n e (G i).cells ∧ ∀ (j : Nat) (y : IV), (G i).cells[j]? = some y → ∃ v, w.cell? ⟨b, o + (i * P.cellsOf e + j), none⟩ = some v ∧ RepI Nob w y v := ⟨fun i => Classical.choose (pick i), fun i => Classical.choose_spec (pick i)⟩
          have hget : ∀ (i : Nat) (x : IV), ((List.range len).map G)[i]? = some x → i < len ∧ x = G i := by
            intro i x hx
            have hil := lt_of_get hx
            rw [List.length_map, List.length_range] at hil
            rw [List.getElem?_map, List.getElem?_range hil] at hx
            cases hx; exact ⟨hil, rfl⟩
          refine ⟨[.sl (P.cellsOf e) ((List.range len).map G)], ?_, rfl, ?_, by simp [IV.one]⟩
          · simp only [Shp, hu]
            refine ⟨_, rfl, by simp; omega, fun x hx => ?_⟩
            obtain ⟨i, hi', rfl⟩ := List.mem_map.1 hx
            have := hG i (List.mem_range.1 hi')
            exact ⟨this.1, this.2.1, this.2.2.1⟩
          · refine rep1 ?_
            have := RepI.sl (E := Nob) (w := w) (P.cellsOf e) ((List.range len).map G) b o cap (fun i j => (w.cell? ⟨b, o + (i * P.cellsOf e + j), none⟩).getD .nilFunc) (by simpa using hlc) (fun h => h) hb'
              (fun i x hx => by obtain ⟨h1, rfl⟩ := hget i x hx; exact (hG i h1).2.1)
              (fun i j hi1 hj => by
                rw [List.length_map, List.length_range] at hi1
                have h1 := hG i hi1
                have h2 := IV.fits_len h1.2.1
                obtain ⟨v, h3, _⟩ := h1.2.2.2 j _ (List.getElem?_eq_getElem (by omega))
                rw [h3]; rfl)
              (fun i x j y hx hy => by
                obtain ⟨h1, rfl⟩ := hget i x hx
                obtain ⟨v, h3, h4⟩ := (hG i h1).2.2.2 j y hy
                rw [h3]; exact h4)
            simpa using this
    · rename_i fs hu
      simp only [Bool.and_eq_true, List.all_eq_true] at h
      obtain ⟨hlay, hall⟩ := h
      obtain ⟨xs, m, _, _, hl, hlen, hf⟩ := DataW.trod_struct hu ht
      obtain ⟨ys, h1, h2, h3, h4⟩ := parts_good (w := w) (n := n) (cs := cs) (e := P.cellsOf t) (by omega) _ 0 hlay (fun p hp => by
        obtain ⟨f, hfm, rfl⟩ := List.mem_map.1 hp
        obtain ⟨i, hi⟩ := List.getElem?_of_mem hfm
        rw [Array.getElem?_toList] at hi
        have hil : i < xs.length := by rw [hlen]; exact (Array.getElem?_eq_some_iff.1 hi).1
        have := hf i f hi
        rw [List.getElem?_eq_getElem hil] at this
        exact open_any n f.type _ _ _ (hall f hfm) this)
      refine ⟨ys, ?_, by omega, fun i y v hy hv => h2 i y v hy (by simpa using hv), h3⟩
      simp only [Shp, hu]
      refine ⟨by omega, fun f hf' => ?_⟩
      have := h4 (f.offset, f.type) (List.mem_map.2 ⟨f, hf', rfl⟩)
      simpa using this.2
    · rename_i m e hu
      simp only [Bool.and_eq_true] at h
      obtain ⟨hlay, hall⟩ := h
      obtain ⟨xs, m', _, _, hl, hlen, hf⟩ := DataW.trod_array hu ht
      obtain ⟨ys, h1, h2, h3, h4⟩ := parts_good (w := w) (n := n) (cs := cs) (e := P.cellsOf t) (by omega) _ 0 hlay (fun p hp => by
        obtain ⟨i, hi, rfl⟩ := List.mem_map.1 hp
        have hi' := List.mem_range.1 hi
        have := hf i hi'
        rw [List.getElem?_eq_getElem (by omega)] at this
        exact open_any n e _ _ _ hall this)
      refine ⟨ys, ?_, by omega, fun i y v hy hv => h2 i y v hy (by simpa using hv), h3⟩
      simp only [Shp, hu]
      refine ⟨by omega, fun i hi => ?_⟩
      have := h4 (i * P.cellsOf e, e) (List.mem_map.2 ⟨i, List.mem_range.2 hi, rfl⟩)
      simpa using this.2
    · cases h

/-! ### whole arguments -/
variable {t e : TypeId} {v : Value} {d : DataW H} {ps : List MemPlace}
theorem iv_struct {fs : Array Field} {r : Reach} {b0 : Nat} (n : Nat) (ht : P.underlying t = some (.struct fs)) (hp : plainT P n t = true) (h : DataW.Trod enc P w 0 (fun _ => true) held t v d ps) (hval : Value.okWide P w r b0 t v) :
    ∃ ys, Shp P n t ys ∧ RepI Nob w (.agg ys) v := by
  obtain ⟨cs, rfl⟩ : ∃ cs, v = .agg cs := by
    simp only [Value.okWide, ht] at hval
    cases v <;> simp_all [Cell.okWide, Cell.ok]
  obtain ⟨fuel, hf⟩ := h
  obtain ⟨ys, g⟩ := open_any n t fuel _ _ hp hf
  have hcs : (Value.agg cs).cells.toList = cs.toList := by simp [Value.cells]
  rw [hcs] at g
  refine ⟨ys, g.shp, .agg ys cs (by rw [g.len]; simp) (fun i y z hy hz => g.rep i y z hy (by rw [Array.getElem?_toList]; exact hz))⟩
theorem iv_slice (n : Nat) (ht : P.underlying t = some (.slice e)) (hp : plainT P (n + 1) t = true) (h : DataW.Trod enc P w 0 (fun _ => true) held t v d ps) (hv : ∃ a len cap, v = .slice a len cap) :
    ∃ xs : List IV, xs.length ≤ maxLen ∧ (∀ x ∈ xs, x = mk1 x.cells ∧ x.fits (P.cellsOf e) = true ∧ Shp P n e x.cells) ∧ RepI Nob w (.sl (P.cellsOf e) xs) v := by
  obtain ⟨a, len, cap, rfl⟩ := hv
  obtain ⟨fuel, hf⟩ := h
  obtain ⟨ys, g⟩ := open_any (n + 1) t fuel _ _ hp hf
  have hs := g.shp
  simp only [Shp, ht] at hs
  obtain ⟨xs, rfl, h1, h2⟩ := hs
  exact ⟨xs, h1, h2, g.rep 0 _ _ rfl (by simp [Value.cells])⟩
theorem map_of {α : Type} (f : α → IV) {G : α → Prop} : ∀ (xs : List IV), (∀ x ∈ xs, ∃ p, x = f p ∧ G p) → ∃ ps : List α, xs = ps.map f ∧ ∀ p ∈ ps, G p
  | [], _ => ⟨[], rfl, by simp⟩
  | x :: xs, h => by
    obtain ⟨p, rfl, hg⟩ := h x (by simp)
    obtain ⟨ps, rfl, hps⟩ := map_of f xs (fun y hy => h y (by simp [hy]))
    exact ⟨p :: ps, rfl, by simpa using ⟨hg, hps⟩⟩
theorem shp_bools {n : Nat} {ys : List IV} (ht : P.underlying t = some (.slice e)) (he : P.underlying e = some .bool) (hc : P.cellsOf e = 1) (h : Shp P (n + 2) t ys) : ∃ bs : List Bool, ys = [.sl 1 (bs.map .bool)] ∧ bs.length ≤ maxLen := by
  simp only [Shp, ht, he] at h
  obtain ⟨xs, rfl, h1, h2⟩ := h
  obtain ⟨bs, rfl, _⟩ := map_of (G := fun _ => True) IV.bool xs (fun x hx => by
    obtain ⟨hm, _, b, hb⟩ := h2 x hx
    exact ⟨b, by rw [hm, hb]; rfl, trivial⟩)
  exact ⟨bs, by rw [hc], by simpa using h1⟩
theorem shp_ints {k : IntKind} {n : Nat} {ys : List IV} (ht : P.underlying t = some (.slice e)) (he : P.underlying e = some (.int k)) (hc : P.cellsOf e = 1) (h : Shp P (n + 2) t ys) : ∃ bs : List Int, ys = [.sl 1 (bs.map (IV.int k))] ∧ bs.length ≤ maxLen ∧ ∀ z ∈ bs, (Lit.int k z).wf = true := by
  simp only [Shp, ht, he] at h
  obtain ⟨xs, rfl, h1, h2⟩ := h
  obtain ⟨bs, rfl, hw⟩ := map_of (G := fun z => (Lit.int k z).wf = true) (IV.int k) xs (fun x hx => by
    obtain ⟨hm, _, b, hb, hw⟩ := h2 x hx
    exact ⟨b, by rw [hm, hb]; rfl, hw⟩)
  exact ⟨bs, by rw [hc], by simpa using h1, hw⟩
theorem shp_row {f0 f1 : Field} {e0 e1 : TypeId} {n : Nat} {ys : List IV} (ht : P.underlying t = some (.struct #[f0, f1])) (o0 : f0.offset = 0) (o1 : f1.offset = 1) (c0 : P.cellsOf f0.type = 1) (c1 : P.cellsOf f1.type = 1) (ct : P.cellsOf t = 2)
    (h0 : P.underlying f0.type = some (.slice e0)) (h1 : P.underlying f1.type = some (.slice e1)) (g0 : P.underlying e0 = some .bool) (g1 : P.underlying e1 = some (.int .i64)) (d0 : P.cellsOf e0 = 1) (d1 : P.cellsOf e1 = 1) (h : Shp P (n + 3) t ys) :
    ∃ (bs : List Bool) (ts : List Int), ys = [.sl 1 (bs.map .bool), .sl 1 (ts.map (IV.int .i64))] ∧ bs.length ≤ maxLen ∧ ts.length ≤ maxLen ∧ ∀ z ∈ ts, (Lit.int .i64 z).wf = true := by
  unfold Shp at h
  rw [ht] at h
  simp only at h
  obtain ⟨hl, hf⟩ := h
  rw [ct] at hl
  have k0 := hf f0 (by simp)
  have k1 := hf f1 (by simp)
  rw [o0, c0] at k0
  rw [o1, c1] at k1
  match ys, hl with
  | [y0, y1], _ =>
    obtain ⟨bs, e0', hb⟩ := shp_bools h0 g0 d0 k0
    obtain ⟨ts, e1', hb1, hb2⟩ := shp_ints h1 g1 d1 k1
    simp only [List.drop_zero, List.take_succ_cons, List.take_zero, List.drop_succ_cons, List.cons.injEq, and_true] at e0' e1'
    exact ⟨bs, ts, by rw [e0', e1'], hb, hb1, hb2⟩
theorem iv_row {f0 f1 : Field} {e0 e1 : TypeId} {r : Reach} {b0 : Nat} (n : Nat) (ht : P.underlying t = some (.struct #[f0, f1])) (o0 : f0.offset = 0) (o1 : f1.offset = 1) (c0 : P.cellsOf f0.type = 1) (c1 : P.cellsOf f1.type = 1) (ct : P.cellsOf t = 2)
    (h0 : P.underlying f0.type = some (.slice e0)) (h1 : P.underlying f1.type = some (.slice e1)) (g0 : P.underlying e0 = some .bool) (g1 : P.underlying e1 = some (.int .i64)) (d0 : P.cellsOf e0 = 1) (d1 : P.cellsOf e1 = 1) (hp : plainT P (n + 3) t = true)
    (h : DataW.Trod enc P w 0 (fun _ => true) held t v d ps) (hval : Value.okWide P w r b0 t v) :
    ∃ a : List Bool × List Int, (a.1.length ≤ maxLen ∧ a.2.length ≤ maxLen ∧ ∀ z ∈ a.2, (Lit.int .i64 z).wf = true) ∧ RepI Nob w (.agg [.sl 1 (a.1.map .bool), .sl 1 (a.2.map (IV.int .i64))]) v := by
  obtain ⟨ys, hs, hr⟩ := iv_struct (n + 3) ht hp h hval
  obtain ⟨bs, ts, rfl, h2⟩ := shp_row ht o0 o1 c0 c1 ct h0 h1 g0 g1 d0 d1 hs
  exact ⟨(bs, ts), h2, hr⟩
end
end Go.Proofs.YtpjncojljamacaaGreat.AM
