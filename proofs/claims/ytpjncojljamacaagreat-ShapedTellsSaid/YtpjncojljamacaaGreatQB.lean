
/- slices.Sort: partitions. No condition but lengths that fit. slices.Sort: partitionEqual. No condition but lengths that fit. slices.Sort: partialInsertionSort. No condition but lengths that fit. slices.Sort: pdqsort. No condition but lengths that fit. slices.Sort, Compact, BinarySearch. No condition but lengths that fit. -/
import Derived.Test.YtpjncojljamacaaGreatQA

set_option linter.unusedVariables false
set_option linter.unusedSimpArgs false
set_option maxRecDepth 20000
namespace Go.Proofs.YtpjncojljamacaaGreat.AM
open Go Go.RowKit

structure PtI (L : Int → Prop) (f g : Nat → Int) (a b i j : Nat) (p : Int) : Prop where
  i0 : a + 1 ≤ i
  ij : i ≤ j
  jb : j ≤ b
  sw : Sw a b f g
  ga : g a = p
  lo : ∀ m, a + 1 ≤ m → m < i → L (g m)
  hi : ∀ m, j ≤ m → m < b → ¬ L (g m)
theorem PtI.start {L : Int → Prop} {f : Nat → Int} {a b k : Nat} (hk : a ≤ k ∧ k < b) : PtI L f (swp f a k) a b (a + 1) b (f k) :=
  ⟨Nat.le_refl _, by omega, Nat.le_refl _, Sw.refl.swap _ _ (by omega) hk, swp_i _ _ _, fun m h1 h2 => by omega, fun m h1 h2 => by omega⟩
theorem PtI.swap {L : Int → Prop} {f g : Nat → Int} {a b i j : Nat} {p : Int} (h : PtI L f g a b i j p) (hij : i < j) (h1 : ¬ L (g i)) (h2 : L (g (j - 1))) : i + 1 ≤ j - 1 ∧ PtI L f (swp g i (j - 1)) a b (i + 1) (j - 1) p := by
  have hne : i ≠ j - 1 := fun e => h1 (e ▸ h2)
  have h0 := h.i0
  have hb := h.jb
  refine ⟨by omega, by omega, by omega, by omega, h.sw.swap _ _ (by omega) (by omega), by rw [swp_ne _ (by omega) (by omega)]; exact h.ga, fun m h3 h4 => ?_, fun m h3 h4 => ?_⟩
  · by_cases e : m = i
    · subst e; rw [swp_i]; exact h2
    · rw [swp_ne _ e (by omega)]; exact h.lo m h3 (by omega)
  · by_cases e : m = j - 1
    · subst e; rw [swp_j]; exact h1
    · rw [swp_ne _ (by omega) e]; exact h.hi m (by omega) h4
theorem PtI.done {L : Int → Prop} {f g : Nat → Int} {a b i j : Nat} {p : Int} (h : PtI L f g a b i j p) (hij : i = j) (hLp : ∀ x, L x ↔ x < p) :
    Sw a b f (swp g (j - 1) a) ∧ (∀ q, a ≤ q → q < j - 1 → swp g (j - 1) a q < swp g (j - 1) a (j - 1)) ∧ (∀ q, j - 1 < q → q < b → swp g (j - 1) a (j - 1) ≤ swp g (j - 1) a q) := by
  have h0 := h.i0
  have hb := h.jb
  refine ⟨h.sw.swap _ _ (by omega) (by omega), fun q h1 h2 => ?_, fun q h1 h2 => ?_⟩
  · rw [swp_i, h.ga]
    by_cases e : q = a
    · subst e; rw [swp_j]; exact (hLp _).1 (h.lo (j - 1) (by omega) (by omega))
    · rw [swp_ne _ (by omega) e]; exact (hLp _).1 (h.lo q (by omega) (by omega))
  · rw [swp_i, h.ga, swp_ne _ (by omega) (by omega)]
    have := h.hi q (by omega) h2
    rw [hLp] at this; omega

end Go.Proofs.YtpjncojljamacaaGreat.AM

set_option linter.unusedVariables false
set_option linter.unusedSimpArgs false
set_option maxRecDepth 20000
namespace Go.Proofs.YtpjncojljamacaaGreat.AM
open Go Go.RowKit

end Go.Proofs.YtpjncojljamacaaGreat.AM

set_option linter.unusedVariables false
set_option linter.unusedSimpArgs false
set_option maxRecDepth 20000
namespace Go.Proofs.YtpjncojljamacaaGreat.AM
open Go Go.RowKit

end Go.Proofs.YtpjncojljamacaaGreat.AM

set_option linter.unusedVariables false
set_option linter.unusedSimpArgs false
set_option maxRecDepth 20000
namespace Go.Proofs.YtpjncojljamacaaGreat.AM
open Go Go.RowKit

theorem Low.part {g : Nat → Int} {a b a' b' : Nat} (h : Low g a b) (hp : Prs g a b a' b') (ha : a ≤ a') (hb : b' ≤ b) : Low g a' b' := by
  by_cases e : a' = a
  · subst e
    rcases h with h | h
    · exact .inl h
    · exact .inr (fun i h1 h2 => h i h1 (by omega))
  · exact .inr (fun i h1 h2 => hp (a' - 1) i (by omega) (by omega) (by omega) (by omega))
theorem Low.sub {g : Nat → Int} {a b b' : Nat} (h : Low g a b) (hb : b' ≤ b) : Low g a b' := by
  rcases h with h | h
  · exact .inl h
  · exact .inr (fun i h1 h2 => h i h1 (by omega))
end Go.Proofs.YtpjncojljamacaaGreat.AM

set_option linter.unusedVariables false
set_option linter.unusedSimpArgs false
set_option maxRecDepth 20000
namespace Go.Proofs.YtpjncojljamacaaGreat.AM
open Go Go.RowKit

end Go.Proofs.YtpjncojljamacaaGreat.AM
