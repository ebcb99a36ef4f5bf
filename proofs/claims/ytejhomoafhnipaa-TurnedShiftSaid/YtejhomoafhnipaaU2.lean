
/- Chapter 8: a row that goes round once is a turned row, plainly. No condition. -/
import Derived.Test.YtejhomoafhnipaaU1
set_option linter.unusedVariables false
set_option linter.unusedSimpArgs false
set_option maxRecDepth 20000
namespace Go.Proofs.Ytejhomoafhnipaa.AM
open Go Go.RowKit

structure Rnd (b : List Int) : Prop where
  pos : 0 < b.length
  low : ∀ x ∈ b, -1 ≤ x
  one : ∃ p, p < b.length ∧ b.getD p 0 = -1 ∧ ∀ q, q < b.length → b.getD q 0 = -1 → q = p
  cyc : cycF (boL b) b.length = 0
  not : ∀ j, 1 ≤ j → j < b.length → cycF (boL b) j ≠ 0
theorem cyc_lt {b : List Int} (h : 0 < b.length) : ∀ j, cycF (boL b) j < b.length
  | 0 => h
  | j + 1 => by
    have := boL_rng (cyc_lt h j)
    rw [cycF]; omega
theorem bo_inj {b : List Int} {r q : Nat} (hr : r < b.length) (hq : q < b.length) (h : ((boL b).getD r 0).toNat = ((boL b).getD q 0).toNat) : r = q := by
  have h1 := boL_rng hr
  have h2 := boL_rng hq
  have hP := allB_pm (boL_all b)
  rw [boL_len] at hP
  rcases Nat.lt_trichotomy r q with g | g | g
  · exact absurd (show (boL b).getD r 0 = (boL b).getD q 0 by omega) (hP.dif r q g hq)
  · exact g
  · exact absurd (show (boL b).getD q 0 = (boL b).getD r 0 by omega) (hP.dif q r g hr)
theorem cyc_back {b : List Int} (h : 0 < b.length) : ∀ (i d : Nat), cycF (boL b) i = cycF (boL b) (i + d) → cycF (boL b) d = 0
  | 0, d, e => by rw [Nat.zero_add] at e; exact e.symm
  | i + 1, d, e => by
    rw [show i + 1 + d = (i + d) + 1 by omega, cycF, cycF] at e
    exact cyc_back h i d (bo_inj (cyc_lt h i) (cyc_lt h (i + d)) e)
namespace Rnd
variable {b : List Int}
theorem inj (h : Rnd b) {i j : Nat} (hi : 1 ≤ i ∧ i ≤ b.length) (hj : 1 ≤ j ∧ j ≤ b.length) (e : cycF (boL b) i = cycF (boL b) j) : i = j := by
  rcases Nat.lt_trichotomy i j with g | g | g
  · have := cyc_back h.pos i (j - i) (by rw [e]; congr 1; omega)
    exact absurd this (h.not (j - i) (by omega) (by omega))
  · exact g
  · have := cyc_back h.pos j (i - j) (by rw [← e]; congr 1; omega)
    exact absurd this (h.not (i - j) (by omega) (by omega))
theorem all (h : Rnd b) {r : Nat} (hr : r < b.length) : ∃ j, 1 ≤ j ∧ j ≤ b.length ∧ cycF (boL b) j = r := by
  have hp := pigeon ((List.range b.length).map (fun j => (cycF (boL b) (j + 1) : Int))) (idL b.length) (by
    rw [List.nodup_iff_pairwise_ne, List.pairwise_map]
    refine (List.nodup_iff_pairwise_ne.1 List.nodup_range).imp_of_mem (fun {x y} hx hy hxy e => hxy ?_)
    rw [List.mem_range] at hx hy
    have := h.inj (i := x + 1) (j := y + 1) (by omega) (by omega) (by omega)
    omega) (fun x hx => by
    obtain ⟨j, _, rfl⟩ := List.mem_map.1 hx
    exact mem_idL.2 ⟨_, cyc_lt h.pos _, rfl⟩) (by rw [List.length_map, List.length_range, idL_len]; exact Nat.le_refl _)
  have hm := (hp.mem_iff (a := (r : Int))).2 (mem_idL.2 ⟨r, hr, rfl⟩)
  obtain ⟨j, hj, e⟩ := List.mem_map.1 hm
  rw [List.mem_range] at hj
  exact ⟨j + 1, by omega, by omega, by omega⟩
noncomputable def pos_ (b : List Int) (r : Nat) : Nat := by
  classical exact if h : ∃ j, 1 ≤ j ∧ j ≤ b.length ∧ cycF (boL b) j = r then Classical.choose h - 1 else 0
theorem pos_cyc (h : Rnd b) {j : Nat} (hj : 1 ≤ j ∧ j ≤ b.length) : pos_ b (cycF (boL b) j) = j - 1 := by
  unfold pos_
  have he : ∃ i, 1 ≤ i ∧ i ≤ b.length ∧ cycF (boL b) i = cycF (boL b) j := ⟨j, hj.1, hj.2, rfl⟩
  rw [dif_pos he]
  have hs := Classical.choose_spec he
  rw [h.inj ⟨hs.1, hs.2.1⟩ hj hs.2.2]
end Rnd
def outP (b : List Int) : List Int := (List.range (b.length - 1)).map (fun j => b.getD (cycF (boL b) (j + 2)) 0)
theorem outP_len (b : List Int) : (outP b).length = b.length - 1 := by simp [outP]
theorem outP_at {b : List Int} {j : Nat} (h : j < b.length - 1) : (outP b).getD j 0 = b.getD (cycF (boL b) (j + 2)) 0 := by unfold outP; exact range_at (f := fun j => b.getD (cycF (boL b) (j + 2)) 0) h
namespace Rnd
variable {b : List Int}
theorem first (h : Rnd b) : b.getD (cycF (boL b) 1) 0 = -1 := by
  obtain ⟨p, hp, h1, h2⟩ := h.one
  -- the place of -1 stands first
  have hall := boL_all b
  have hm : (p : Int) ∈ boL b := (allB_perm hall).mem_iff.2 (mem_idL.2 ⟨p, by rw [boL_len]; exact hp, rfl⟩)
  obtain ⟨r, hr, er⟩ := List.getElem_of_mem hm
  rw [boL_len] at hr
  rw [← getD_el (by rw [boL_len]; exact hr)] at er
  cases r with
  | zero => show b.getD ((boL b).getD 0 0).toNat 0 = -1; rw [er, Int.toNat_natCast]; exact h1
  | succ r =>
    have hr2 := boL_rng (b := b) (r := r) (by omega)
    have := boL_next (b := b) (i := r) (x := ((boL b).getD r 0).toNat) (y := p) hr (by omega) er
    have h3 := h.low (b.getD ((boL b).getD r 0).toNat 0) (getD_mem (by omega))
    rw [h1] at this
    rcases this with g | ⟨g, g2⟩
    · omega
    · have := h2 ((boL b).getD r 0).toNat (by omega) g
      omega
theorem only (h : Rnd b) {j : Nat} (hj : 2 ≤ j ∧ j ≤ b.length) : 0 ≤ b.getD (cycF (boL b) j) 0 := by
  obtain ⟨p, hp, h1, h2⟩ := h.one
  have h3 := h.low (b.getD (cycF (boL b) j) 0) (getD_mem (cyc_lt h.pos j))
  rcases (show b.getD (cycF (boL b) j) 0 < 0 ∨ 0 ≤ b.getD (cycF (boL b) j) 0 by omega) with g | g
  · have e1 := h2 _ (cyc_lt h.pos j) (show b.getD (cycF (boL b) j) 0 = -1 by omega)
    have e2 := h2 _ (cyc_lt h.pos 1) h.first
    have := h.inj (i := j) (j := 1) (by omega) (by omega) (e1.trans e2.symm)
    omega
  · exact g
theorem nn (h : Rnd b) : ∀ x ∈ outP b, 0 ≤ x := fun x hx => by
  unfold outP at hx
  obtain ⟨j, hj, rfl⟩ := List.mem_map.1 hx
  rw [List.mem_range] at hj
  exact h.only (by omega)
theorem order (h : Rnd b) : ∀ (m j k : Nat), b.length - 1 - j ≤ m → j + 1 ≤ b.length → k + 1 ≤ b.length → cycF (boL b) (j + 1) < cycF (boL b) (k + 1) → wl ((outP b).drop j) ((outP b).drop k) = true := by
  have hol := outP_len b
  intro m
  induction m with
  | zero =>
    intro j k hm hj hk hlt
    have e : j = b.length - 1 := by omega
    rw [List.drop_of_length_le (by omega)]
    refine wl_nil (fun e2 => ?_)
    have := congrArg List.length e2
    rw [List.length_drop, List.length_nil] at this
    have : k = j := by omega
    subst this; omega
  | succ m ih =>
    intro j k hm hj hk hlt
    by_cases e : j = b.length - 1
    · rw [List.drop_of_length_le (by omega)]
      refine wl_nil (fun e2 => ?_)
      have := congrArg List.length e2
      rw [List.length_drop, List.length_nil] at this
      have : k = j := by omega
      subst this; omega
    · by_cases e2 : k = b.length - 1
      · subst e2
        have := h.cyc
        rw [show b.length - 1 + 1 = b.length by omega, this] at hlt
        omega
      · -- a chain of steps from one place of the order to the next ones
        have step : ∀ (d r : Nat), r + d + 1 < b.length → b.getD ((boL b).getD r 0).toNat 0 < b.getD ((boL b).getD (r + d + 1) 0).toNat 0 ∨ (b.getD ((boL b).getD r 0).toNat 0 = b.getD ((boL b).getD (r + d + 1) 0).toNat 0 ∧ ((boL b).getD r 0).toNat < ((boL b).getD (r + d + 1) 0).toNat) := by
          intro d
          induction d with
          | zero =>
            intro r hr
            have g1 := boL_rng (b := b) (r := r) (by omega)
            have g2 := boL_rng (b := b) (r := r + 1) (by omega)
            have := boL_next (b := b) (i := r) (x := ((boL b).getD r 0).toNat) (y := ((boL b).getD (r + 1) 0).toNat) (by omega) (by omega) (by omega)
            exact this
          | succ d ihd =>
            intro r hr
            have a1 := ihd r (by omega)
            have g1 := boL_rng (b := b) (r := r + d + 1) (by omega)
            have g2 := boL_rng (b := b) (r := r + d + 1 + 1) (by omega)
            have a2 := boL_next (b := b) (i := r + d + 1) (x := ((boL b).getD (r + d + 1) 0).toNat) (y := ((boL b).getD (r + d + 1 + 1) 0).toNat) (by omega) (by omega) (by omega)
            rw [show r + (d + 1) + 1 = r + d + 1 + 1 by omega]
            omega
        have hs := step (cycF (boL b) (k + 1) - cycF (boL b) (j + 1) - 1) (cycF (boL b) (j + 1)) (by have := cyc_lt h.pos (k + 1); omega)
        rw [show cycF (boL b) (j + 1) + (cycF (boL b) (k + 1) - cycF (boL b) (j + 1) - 1) + 1 = cycF (boL b) (k + 1) by omega] at hs
        change b.getD (cycF (boL b) (j + 2)) 0 < b.getD (cycF (boL b) (k + 2)) 0 ∨ (b.getD (cycF (boL b) (j + 2)) 0 = b.getD (cycF (boL b) (k + 2)) 0 ∧ cycF (boL b) (j + 2) < cycF (boL b) (k + 2)) at hs
        rw [← outP_at (by omega), ← outP_at (by omega)] at hs
        rw [List.drop_eq_getElem_cons (show j < (outP b).length by omega), List.drop_eq_getElem_cons (show k < (outP b).length by omega), wl, ← getD_el, ← getD_el]
        rcases hs with g | ⟨g, g2⟩
        · rw [if_pos g]
        · rw [if_neg (by omega), if_neg (by omega)]
          exact ih (j + 1) (k + 1) (by omega) (by omega) (by omega) g2
theorem turn (h : Rnd b) : turnL (outP b) = b := by
  have hol := outP_len b
  have hpos := h.pos
  -- the order of suffixes
  have hsa : IsSA (outP b) ((List.range (b.length - 1)).map (fun r => (pos_ b (r + 1) : Int))) := by
    refine ⟨?_, fun x => ?_⟩
    · rw [List.pairwise_map]
      refine List.pairwise_lt_range.imp_of_mem (fun {r q} hr hq hrq => ?_)
      rw [List.mem_range] at hr hq
      obtain ⟨j, j1, j2, ej⟩ := h.all (r := r + 1) (by omega)
      obtain ⟨k, k1, k2, ek⟩ := h.all (r := q + 1) (by omega)
      have hj := h.pos_cyc (j := j) (by omega)
      have hk := h.pos_cyc (j := k) (by omega)
      rw [ej] at hj
      rw [ek] at hk
      unfold Rs sl2
      rw [hj, hk, Int.toNat_natCast, Int.toNat_natCast]
      exact h.order _ (j - 1) (k - 1) (Nat.le_refl _) (by omega) (by omega) (by rw [show j - 1 + 1 = j by omega, show k - 1 + 1 = k by omega]; omega)
    · rw [List.mem_map, hol]
      constructor
      · rintro ⟨r, hr, rfl⟩
        rw [List.mem_range] at hr
        obtain ⟨j, j1, j2, ej⟩ := h.all (r := r + 1) (by omega)
        have hj := h.pos_cyc (j := j) (by omega)
        rw [ej] at hj
        rw [hj]
        have : j ≠ b.length := fun e => by subst e; have := h.cyc; omega
        omega
      · rintro ⟨h1, h2⟩
        have hne := h.not (x.toNat + 1) (by omega) (by omega)
        have hlt := cyc_lt h.pos (x.toNat + 1)
        refine ⟨cycF (boL b) (x.toNat + 1) - 1, List.mem_range.2 (by omega), ?_⟩
        rw [show cycF (boL b) (x.toNat + 1) - 1 + 1 = cycF (boL b) (x.toNat + 1) by omega, h.pos_cyc (by omega)]
        omega
  have hsl := sa_eq hsa
  apply List.ext_getElem (by rw [turnL_len, hol]; omega)
  intro r h1 h2
  rw [← getD_el h1, ← getD_el h2, turn_at (by omega)]
  obtain ⟨j, j1, j2, ej⟩ := h.all (r := r) h2
  have hj := h.pos_cyc (j := j) (by omega)
  rw [ej] at hj
  have hrw : rwN (outP b) r = j - 1 := by
    unfold rwN
    by_cases e : r = 0
    · rw [if_pos e, hol]
      have := h.inj (i := j) (j := b.length) (by omega) (by omega) (by rw [ej, h.cyc, e])
      omega
    · rw [if_neg e, ← hsl, range_at (by omega), Int.toNat_natCast, show r - 1 + 1 = r by omega, hj]
  rw [hrw]
  cases j with
  | zero => omega
  | succ j =>
    rw [Nat.add_sub_cancel]
    cases j with
    | zero => rw [← ej, h.first]; rfl
    | succ j => rw [ahd_succ, outP_at (by omega), ej]
end Rnd
theorem turn_rnd {l : List Int} (h : ∀ x ∈ l, 0 ≤ x) : Rnd (turnL l) := by
  have hl := turnL_len l
  have hb := nxt_bo h
  refine ⟨by omega, fun x hx => ?_, ⟨rkS l 0, ?_, ?_, fun q hq e => ?_⟩, ?_, fun j h1 h2 => ?_⟩
  · obtain ⟨r, hr, rfl⟩ := List.getElem_of_mem hx
    rw [← getD_el hr, turn_at (by omega)]
    exact (ahd_one h (rw_le (by omega))).1
  · have := rkS_le (l := l) (i := 0) (Nat.zero_le _); omega
  · rw [turn_at (rkS_le (Nat.zero_le _)), rw_rk (Nat.zero_le _)]; rfl
  · rw [turn_at (by omega), (ahd_one h (rw_le (by omega))).2] at e
    rw [← e, rk_rw (by omega)]
  · rw [← hb, hl, cyc_turn (Nat.le_refl _)]; unfold rkS; rw [if_pos rfl]
  · rw [← hb, show j = (j - 1) + 1 by omega, cyc_turn (by omega)]
    exact rkS_pos (by omega)
theorem turn_out {l : List Int} (h : ∀ x ∈ l, 0 ≤ x) : outP (turnL l) = l := by
  have hl := turnL_len l
  have hb := nxt_bo h
  have hol := outP_len (turnL l)
  apply List.ext_getElem (by omega)
  intro j h1 h2
  rw [← getD_el h1, ← getD_el h2, outP_at (by omega), ← hb, cyc_turn (j := j + 1) (by omega), turn_at (rkS_le (by omega)), rw_rk (by omega), ahd_succ]
end Go.Proofs.Ytejhomoafhnipaa.AM
