
/- The law WaveTurns, as a call. No condition. -/
import Derived.Test.YtkfjldkememadaaW6
set_option linter.unusedVariables false
set_option linter.unusedSimpArgs false
set_option maxRecDepth 20000
namespace Go.Proofs.Ytkfjldkememadaa.AM
open Go Go.RowKit

structure Mk (s : Int) (m : List Int) (W : Nat) (rows : List (List Bool)) : Prop where
  ok : WOk m W rows
  pos : 0 < s
  le : s ≤ 32
  len : m.length ≤ 80
  w : W ≤ 17
  sym : ∀ x ∈ m, 0 ≤ x ∧ x < s
  pow : ∀ c : Nat, (c : Int) < s → c < 2 ^ W
  new : PCalls Try.prog 12 [inl m, .int .i64 s] (.tup [waveV m.length s rows, .int .i64 0])
theorem mk_syms (n : Int) (l : List Int) : ∃ W rows, Mk (1 + n % 32) (symsL (1 + n % 32) l) W rows := by
  obtain ⟨s, hs⟩ : ∃ s, s = 1 + n % 32 := ⟨_, rfl⟩
  have hs0 : 0 < s ∧ s ≤ 32 := by omega
  rw [← hs]
  have hml := symsL_len s l
  have hok := symsL_ok hs0.1 l
  generalize symsL s l = m at *
  have hW0 := widN_fits (n := s - 1) (by omega) (by omega) (w := 17) (by decide)
  have hWle : widN (s - 1) ≤ 17 := hW0.2 (by omega)
  have hWf := (widN_fits (n := s - 1) (by omega) (by omega) (w := widN (s - 1)) (by omega)).1 (Nat.le_refl _)
  refine ⟨widN (s - 1), rowsOf m (widN (s - 1)), rowsOf_ok (fun x hx => ?_), hs0.1, hs0.2, by omega, hWle, hok, fun c hc => by omega, New_ok m s (by omega) (by omega) (by omega) hok⟩
  have := hok x hx
  exact ⟨this.1, by omega⟩
theorem sel_ex (K : Nat → Nat) (c : Nat) : ∀ {n k : Nat}, k < cN K c n → ∃ q, q < n ∧ K q = c ∧ cN K c q = k
  | 0, k, h => by simp [cN] at h
  | n + 1, k, h => by
    rw [cN] at h
    by_cases g : k < cN K c n
    · obtain ⟨q, h1, h2, h3⟩ := sel_ex K c g
      exact ⟨q, by omega, h2, h3⟩
    · by_cases e : K n = c
      · rw [if_pos e] at h
        exact ⟨n, by omega, e, by omega⟩
      · rw [if_neg e] at h; omega
theorem sy_lt {m : List Int} {s : Int} (h : ∀ x ∈ m, 0 ≤ x ∧ x < s) {i : Nat} (hi : i < m.length) : ((sy m i : Nat) : Int) < s := by
  have := h _ (getD_mem hi)
  unfold sy; omega
theorem sy_eq {m : List Int} {s : Int} (h : ∀ x ∈ m, 0 ≤ x ∧ x < s) {i : Nat} (hi : i < m.length) : m.getD i 0 = ((sy m i : Nat) : Int) := by
  have := h _ (getD_mem hi)
  unfold sy; omega
end Go.Proofs.Ytkfjldkememadaa.AM
