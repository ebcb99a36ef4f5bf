
/- The abstract machine, 12 and a half: other names for objects; some of them taken out for a callee, and put back. No condition. -/
import Derived.Test.YtebegdnebjjnmaaA12
set_option linter.unusedVariables false
set_option linter.unusedSimpArgs false
namespace Go.Proofs.Ytebegdnebjjnmaa.AM
open Go Go.RowKit

mutual
/-- The same value with other names. -/
def ren (σ : Nat → Nat) : AV → AV
  | .any => .any
  | .iv x => .iv x
  | .nilsl => .nilsl
  | .msl k off len n => .msl (σ k) off len n
  | .mp k off => .mp (σ k) off
  | .rp k n i c => .rp (σ k) n i c
  | .ip sz xs i c => .ip sz xs i c
  | .agg cs => .agg (rens σ cs)
  | .tup cs => .tup (rens σ cs)
  | .fn f cs => .fn f (rens σ cs)
def rens (σ : Nat → Nat) : List AV → List AV
  | [] => []
  | x :: l => ren σ x :: rens σ l
end
theorem rens_map (σ : Nat → Nat) : ∀ l, rens σ l = l.map (ren σ)
  | [] => rfl
  | x :: l => by simp [rens, rens_map σ l]
theorem rens_get (σ : Nat → Nat) (l : List AV) (i : Nat) : (rens σ l)[i]? = (l[i]?).map (ren σ) := by rw [rens_map, List.getElem?_map]
theorem rens_len (σ : Nat → Nat) (l : List AV) : (rens σ l).length = l.length := by rw [rens_map, List.length_map]
def renMO (σ : Nat → Nat) : MO → MO
  | .row m T sz xs => .row m T sz xs
  | .var T cs => .var T (rens σ cs)
theorem renMO_mut (σ : Nat → Nat) (o : MO) : (renMO σ o).mut = o.mut := by cases o <;> rfl

/-- The name that the caller has for a callee's name. -/
def sg (l : List Nat) (m : Nat) (i : Nat) : Nat := match l[i]? with
  | some j => j
  | none => m + (i - l.length)
/-- Objects Ml are those of M with the names l. -/
structure Part (M : List MO) (l : List Nat) (Ml : List MO) : Prop where
  nd : l.Nodup
  len : Ml.length = l.length
  get : ∀ (i j : Nat) (o : MO), l[i]? = some j → Ml[i]? = some o → M[j]? = some (renMO (sg l M.length) o)
def partρ (ρ : Nat → Option Nat) (l : List Nat) (i : Nat) : Option Nat := (l[i]?).bind ρ

theorem Evo.weak {M : List MO} {ρ : Nat → Option Nat} {E E' : Nat → Prop} {w : World} (h : ∀ b, E' b → E b) : Evo M M ρ ρ E E' w w where
  stay := ⟨Nat.le_refl _, fun b _ hb => ⟨rfl, fun h' => hb (h b h')⟩⟩
  var k T cs hk := ⟨cs, hk, rfl⟩
  row k m T sz xs hk := ⟨m, xs, hk, Nat.le_refl _, fun _ => ⟨rfl, fun c arr fz hc hh => ⟨arr, fz, hh, Nat.le_refl _⟩⟩⟩

section
variable {X O : Nat → Prop} {w0 : World} {M Ml : List MO} {l : List Nat} {ρ : Nat → Option Nat} {E : Nat → Prop} {w : World}

theorem Part.name (h : Part M l Ml) {k : Nat} {o' : MO} (hk : M[sg l M.length k]? = some o') : ∃ o, Ml[k]? = some o ∧ o' = renMO (sg l M.length) o ∧ partρ ρ l k = ρ (sg l M.length k) := by
  cases hl : l[k]? with
  | none =>
    have : sg l M.length k = M.length + (k - l.length) := by simp [sg, hl]
    rw [this, List.getElem?_eq_none (by omega)] at hk; cases hk
  | some j =>
    have e : sg l M.length k = j := by simp [sg, hl]
    have hlt := lt_of_get hl
    have hg : Ml[k]? = some (Ml[k]'(by rw [h.len]; exact hlt)) := List.getElem?_eq_getElem _
    refine ⟨_, hg, ?_, by simp [partρ, hl, e]⟩
    have := h.get k j _ hl hg
    rw [e] at hk
    rw [hk] at this
    exact Option.some.inj this

theorem row_of_ren {σ : Nat → Nat} {o : MO} {m : Bool} {T : TypeId} {sz : Nat} {xs : List IV} (h : MO.row m T sz xs = renMO σ o) : o = .row m T sz xs := by
  cases o <;> simp [renMO] at h
  obtain ⟨rfl, rfl, rfl, rfl⟩ := h; rfl
theorem var_of_ren {σ : Nat → Nat} {o : MO} {T : TypeId} {cs : List AV} (h : MO.var T cs = renMO σ o) : ∃ cs', o = .var T cs' ∧ cs = rens σ cs' := by
  cases o <;> simp [renMO] at h
  obtain ⟨rfl, rfl⟩ := h; exact ⟨_, rfl, rfl⟩

theorem RepA.part (hp : Part M l Ml) {y : AV} {v : Value} (h : RepA M ρ E w y v) : ∀ x, y = ren (sg l M.length) x → RepA Ml (partρ ρ l) E w x v := by
  have lst : ∀ (cs : List AV) (vs : Array Value) (xs : List AV), cs = rens (sg l M.length) xs → 
      (∀ (i : Nat) (y : AV) (z : Value), cs[i]? = some y → vs[i]? = some z → ∀ x, y = ren (sg l M.length) x → RepA Ml (partρ ρ l) E w x z) →
      (∀ (i : Nat) (x : AV) (z : Value), xs[i]? = some x → vs[i]? = some z → RepA Ml (partρ ρ l) E w x z) := by
    intro cs vs xs e ih i x z hx hz
    exact ih i _ z (by rw [e, rens_get, hx]; rfl) hz x rfl
  induction h with
  | any v => intro x e; cases x <;> simp only [ren, reduceCtorEq] at e; exact .any _
  | iv y v h => intro x e; cases x <;> simp only [ren, reduceCtorEq, AV.iv.injEq] at e; subst e; exact .iv _ _ h
  | nilsl A => intro x e; cases x <;> simp only [ren, reduceCtorEq] at e; exact .nilsl _
  | msl k off len n v m T sz xs h hn hv hf =>
    intro x e; cases x <;> simp only [ren, reduceCtorEq, AV.msl.injEq] at e
    obtain ⟨rfl, rfl, rfl, rfl⟩ := e
    obtain ⟨o, h1, h2, h3⟩ := hp.name (ρ := ρ) h
    refine .msl _ _ _ _ v m T sz xs (by rw [h1, row_of_ren h2]) hn hv (fun e => ?_)
    have := hf e
    unfold SlFact at this ⊢
    rw [h3]; exact this
  | mp k off T cs b h hb =>
    intro x e; cases x <;> simp only [ren, reduceCtorEq, AV.mp.injEq] at e
    obtain ⟨rfl, rfl⟩ := e
    obtain ⟨o, h1, h2, h3⟩ := hp.name (ρ := ρ) h
    obtain ⟨cs', rfl, _⟩ := var_of_ren h2
    exact .mp _ _ T cs' b h1 (h3.trans hb)
  | rp k n i c v m T sz xs h hn hv hf =>
    intro x e; cases x <;> simp only [ren, reduceCtorEq, AV.rp.injEq] at e
    obtain ⟨rfl, rfl, rfl, rfl⟩ := e
    obtain ⟨o, h1, h2, h3⟩ := hp.name (ρ := ρ) h
    refine .rp _ _ _ _ v m T sz xs (by rw [h1, row_of_ren h2]) hn hv (fun e => ?_)
    obtain ⟨b, hb, hv⟩ := hf e
    exact ⟨b, h3.trans hb, hv⟩
  | ip sz xs i c b o cap h hi =>
    intro x e; cases x <;> simp only [ren, reduceCtorEq, AV.ip.injEq] at e
    obtain ⟨rfl, rfl, rfl, rfl⟩ := e
    exact .ip _ _ _ _ b o cap h hi
  | agg cs vs hl h ih =>
    intro x e; cases x <;> simp only [ren, reduceCtorEq, AV.agg.injEq] at e
    rename_i xs
    exact .agg xs vs (by rw [hl, e, rens_len]) (lst cs vs xs e ih)
  | tup cs vs hl h ih =>
    intro x e; cases x <;> simp only [ren, reduceCtorEq, AV.tup.injEq] at e
    rename_i xs
    exact .tup xs vs (by rw [hl, e, rens_len]) (lst cs vs xs e ih)
  | fn f cs vs hl h ih =>
    intro x e; cases x <;> simp only [ren, reduceCtorEq, AV.fn.injEq] at e
    rename_i g xs
    obtain ⟨rfl, e⟩ := e
    exact .fn _ xs vs (by rw [hl, e, rens_len]) (lst cs vs xs e ih)

theorem partρ_get {i j : Nat} (h : l[i]? = some j) : partρ ρ l i = ρ j := by simp [partρ, h]

theorem ObjRep.part (hp : Part M l Ml) {i j : Nat} {o : MO} (hl : l[i]? = some j) (h : ObjRep M ρ E w j (renMO (sg l M.length) o)) : ObjRep Ml (partρ ρ l) E w i o := by
  cases o with
  | row m T sz xs =>
    obtain ⟨h1, h2⟩ := h
    refine ⟨h1, ?_⟩
    rw [partρ_get hl]
    exact h2
  | var T cs =>
    obtain ⟨b, arr, fz, h1, h2, h3, h4, h5⟩ := h
    refine ⟨b, arr, fz, (partρ_get hl).trans h1, h2, h3, by rw [h4, rens_len], fun i y u hy hu => ?_⟩
    exact (h5 i _ u (by rw [rens_get, hy]; rfl) hu).part hp y rfl

/-- What the objects that were not taken out keep from others. -/
def othX (X : Nat → Prop) (M : List MO) (ρ : Nat → Option Nat) (l : List Nat) (b : Nat) : Prop := X b ∨ ∃ j o, M[j]? = some o ∧ o.mut = true ∧ ρ j = some b ∧ j ∉ l

theorem Part.at (hp : Part M l Ml) {i : Nat} {o : MO} (h : Ml[i]? = some o) : ∃ j, l[i]? = some j ∧ M[j]? = some (renMO (sg l M.length) o) := by
  have hi := lt_of_get h
  rw [hp.len] at hi
  exact ⟨_, List.getElem?_eq_getElem hi, hp.get i _ o (List.getElem?_eq_getElem hi) h⟩
theorem Part.of (hp : Part M l Ml) {i j : Nat} (h : l[i]? = some j) : ∃ o, Ml[i]? = some o ∧ M[j]? = some (renMO (sg l M.length) o) := by
  have hi := lt_of_get h
  have hg : Ml[i]? = some (Ml[i]'(by rw [hp.len]; exact hi)) := List.getElem?_eq_getElem _
  exact ⟨_, hg, hp.get i j _ h hg⟩

theorem excl_part (hp : Part M l Ml) : excl (othX X M ρ l) Ml (partρ ρ l) = excl X M ρ := by
  funext b
  apply propext
  constructor
  · rintro ((hX | ⟨j, o, h1, h2, h3, _⟩) | ⟨i, o, h1, h2, h3⟩)
    · exact .inl hX
    · exact .inr ⟨j, o, h1, h2, h3⟩
    · obtain ⟨j, h4, h5⟩ := hp.at h1
      exact .inr ⟨j, _, h5, by rw [renMO_mut]; exact h2, by rw [← partρ_get (ρ := ρ) h4]; exact h3⟩
  · rintro (hX | ⟨j, o, h1, h2, h3⟩)
    · exact .inl (.inl hX)
    · by_cases hj : j ∈ l
      · obtain ⟨i, hi⟩ := List.getElem?_of_mem hj
        obtain ⟨o', h4, h5⟩ := hp.of hi
        rw [h1] at h5; cases h5
        exact .inr ⟨i, o', h4, by rw [← h2, renMO_mut], (partρ_get hi).trans h3⟩
      · exact .inl (.inr ⟨j, o, h1, h2, h3, hj⟩)

theorem nodup_get {l : List Nat} (h : l.Nodup) {i i' j : Nat} (h1 : l[i]? = some j) (h2 : l[i']? = some j) : i = i' :=
  (List.getElem?_inj (lt_of_get h1) h).1 (h1.trans h2.symm)

/-- The blocks of objects. -/
def blocks (M : List MO) (ρ : Nat → Option Nat) (b : Nat) : Prop := ∃ i, i < M.length ∧ ρ i = some b

theorem MemOk.part (hp : Part M l Ml) (h : MemOk X O w0 M ρ w) : MemOk (othX X M ρ l) (blocks Ml (partρ ρ l)) w Ml (partρ ρ l) w where
  obj i o hi := by
    obtain ⟨j, h1, h2⟩ := hp.at hi
    rw [excl_part hp]
    exact (h.obj j _ h2).part hp h1
  inj i i' b hi hi' hb hb' := by
    rw [hp.len] at hi hi'
    have e1 := List.getElem?_eq_getElem hi
    have e2 := List.getElem?_eq_getElem hi'
    obtain ⟨o1, _, g1⟩ := hp.of e1
    obtain ⟨o2, _, g2⟩ := hp.of e2
    rw [partρ_get e1] at hb
    rw [partρ_get e2] at hb'
    have := h.inj _ _ b (lt_of_get g1) (lt_of_get g2) hb hb'
    exact nodup_get hp.nd e1 (by rw [e2, this])
  own i b hi hb := by
    refine ⟨?_, .inl ⟨i, hi, hb⟩⟩
    rw [hp.len] at hi
    have e1 := List.getElem?_eq_getElem hi
    obtain ⟨o1, _, g1⟩ := hp.of e1
    rw [partρ_get e1] at hb
    rintro (hX | ⟨j, o, h1, h2, h3, h4⟩)
    · exact (h.own _ b (lt_of_get g1) hb).1 hX
    · exact h4 (h.inj _ _ b (lt_of_get h1) (lt_of_get g1) h3 hb ▸ List.getElem_mem hi)
  keep := Keep.refl _ _
  ext b hb := by
    rcases hb with hX | ⟨j, o, h1, h2, h3, _⟩
    · exact h.ext b hX
    · exact h.lt (lt_of_get h1) h3

/-- Some objects only: those that are needed further on. -/
theorem MemOk.sel (hp : Part M l Ml) (h : MemOk X O w0 M ρ w) : MemOk X O w0 Ml (partρ ρ l) w ∧ ∀ b, excl X Ml (partρ ρ l) b → excl X M ρ b := by
  have hE : ∀ b, excl X Ml (partρ ρ l) b → excl X M ρ b := by
    rintro b (hX | ⟨i, o, h1, h2, h3⟩)
    · exact .inl hX
    · obtain ⟨j, h4, h5⟩ := hp.at h1
      exact .inr ⟨j, _, h5, by rw [renMO_mut]; exact h2, by rw [← partρ_get (ρ := ρ) h4]; exact h3⟩
  refine ⟨{ obj := fun i o hi => ?_, inj := (h.part hp).inj, own := fun i b hi hb => ?_, keep := h.keep, ext := h.ext }, hE⟩
  · obtain ⟨j, h1, h2⟩ := hp.at hi
    exact ((h.obj j _ h2).part hp h1).mono (Evo.weak hE) rfl (fun _ _ => rfl)
  · rw [hp.len] at hi
    have e1 := List.getElem?_eq_getElem hi
    obtain ⟨o1, _, g1⟩ := hp.of e1
    rw [partρ_get e1] at hb
    exact h.own _ b (lt_of_get g1) hb

end

end Go.Proofs.Ytebegdnebjjnmaa.AM
