
/- slices.Sort: partitions. No condition but lengths that fit. slices.Sort: partitionEqual. No condition but lengths that fit. slices.Sort: partialInsertionSort. No condition but lengths that fit. slices.Sort: pdqsort. No condition but lengths that fit. slices.Sort, Compact, BinarySearch. No condition but lengths that fit. -/
import Derived.Test.YtkfjldkememadaaQA

set_option linter.unusedVariables false
set_option linter.unusedSimpArgs false
set_option maxRecDepth 20000
namespace Go.Proofs.Ytkfjldkememadaa.AM
open Go Go.RowKit

structure PtI (L : Int → Prop) (f g : Nat → Int) (a b i j : Nat) (p : Int) : Prop where
  i0 : a + 1 ≤ i
  ij : i ≤ j
  jb : j ≤ b
  sw : Sw a b f g
  ga : g a = p
  lo : ∀ m, a + 1 ≤ m → m < i → L (g m)
  hi : ∀ m, j ≤ m → m < b → ¬ L (g m)
theorem PtI.start {L : Int → Prop} {f : Nat → Int} {a b k : Nat} (hk : a ≤ k ∧ k < b) : PtI L f (swp f a k) a b (a + 1) b (f k) :=
  ⟨Nat.le_refl _, by omega, Nat.le_refl _, Sw.refl.swap _ _ (by omega) hk, swp_i _ _ _, fun m h1 h2 => by omega, fun m h1 h2 => by omega⟩
theorem PtI.swap {L : Int → Prop} {f g : Nat → Int} {a b i j : Nat} {p : Int} (h : PtI L f g a b i j p) (hij : i < j) (h1 : ¬ L (g i)) (h2 : L (g (j - 1))) : i + 1 ≤ j - 1 ∧ PtI L f (swp g i (j - 1)) a b (i + 1) (j - 1) p := by
  have hne : i ≠ j - 1 := fun e => h1 (e ▸ h2)
  have h0 := h.i0
  have hb := h.jb
  refine ⟨by omega, by omega, by omega, by omega, h.sw.swap _ _ (by omega) (by omega), by rw [swp_ne _ (by omega) (by omega)]; exact h.ga, fun m h3 h4 => ?_, fun m h3 h4 => ?_⟩
  · by_cases e : m = i
    · subst e; rw [swp_i]; exact h2
    · rw [swp_ne _ e (by omega)]; exact h.lo m h3 (by omega)
  · by_cases e : m = j - 1
    · subst e; rw [swp_j]; exact h1
    · rw [swp_ne _ (by omega) e]; exact h.hi m (by omega) h4
theorem PtI.done {L : Int → Prop} {f g : Nat → Int} {a b i j : Nat} {p : Int} (h : PtI L f g a b i j p) (hij : i = j) (hLp : ∀ x, L x ↔ x < p) :
    Sw a b f (swp g (j - 1) a) ∧ (∀ q, a ≤ q → q < j - 1 → swp g (j - 1) a q < swp g (j - 1) a (j - 1)) ∧ (∀ q, j - 1 < q → q < b → swp g (j - 1) a (j - 1) ≤ swp g (j - 1) a q) := by
  have h0 := h.i0
  have hb := h.jb
  refine ⟨h.sw.swap _ _ (by omega) (by omega), fun q h1 h2 => ?_, fun q h1 h2 => ?_⟩
  · rw [swp_i, h.ga]
    by_cases e : q = a
    · subst e; rw [swp_j]; exact (hLp _).1 (h.lo (j - 1) (by omega) (by omega))
    · rw [swp_ne _ (by omega) e]; exact (hLp _).1 (h.lo q (by omega) (by omega))
  · rw [swp_i, h.ga, swp_ne _ (by omega) (by omega)]
    have := h.hi q (by omega) h2
    rw [hLp] at this; omega

end Go.Proofs.Ytkfjldkememadaa.AM

set_option linter.unusedVariables false
set_option linter.unusedSimpArgs false
set_option maxRecDepth 20000
namespace Go.Proofs.Ytkfjldkememadaa.AM
open Go Go.RowKit

end Go.Proofs.Ytkfjldkememadaa.AM

set_option linter.unusedVariables false
set_option linter.unusedSimpArgs false
set_option maxRecDepth 20000
namespace Go.Proofs.Ytkfjldkememadaa.AM
open Go Go.RowKit

end Go.Proofs.Ytkfjldkememadaa.AM

set_option linter.unusedVariables false
set_option linter.unusedSimpArgs false
set_option maxRecDepth 20000
namespace Go.Proofs.Ytkfjldkememadaa.AM
open Go Go.RowKit

theorem Low.part {g : Nat → Int} {a b a' b' : Nat} (h : Low g a b) (hp : Prs g a b a' b') (ha : a ≤ a') (hb : b' ≤ b) : Low g a' b' := by
  by_cases e : a' = a
  · subst e
    rcases h with h | h
    · exact .inl h
    · exact .inr (fun i h1 h2 => h i h1 (by omega))
  · exact .inr (fun i h1 h2 => hp (a' - 1) i (by omega) (by omega) (by omega) (by omega))
theorem Low.sub {g : Nat → Int} {a b b' : Nat} (h : Low g a b) (hb : b' ≤ b) : Low g a b' := by
  rcases h with h | h
  · exact .inl h
  · exact .inr (fun i h1 h2 => h i h1 (by omega))
end Go.Proofs.Ytkfjldkememadaa.AM

set_option linter.unusedVariables false
set_option linter.unusedSimpArgs false
set_option maxRecDepth 20000
namespace Go.Proofs.Ytkfjldkememadaa.AM
open Go Go.RowKit

theorem perm_srt_eq {α : Type} {r : α → α → Prop} (has : ∀ a b, r a b → r b a → a = b) : ∀ {l1 l2 : List α}, l1.Perm l2 → l1.Pairwise r → l2.Pairwise r → l1 = l2
  | [], l2, hp, _, _ => by
    have := hp.length_eq
    exact (List.eq_nil_of_length_eq_zero (by simpa using this.symm)).symm
  | a :: l1, [], hp, _, _ => by have := hp.length_eq; simp at this
  | a :: l1, b :: l2, hp, h1, h2 => by
    have e : a = b := by
      rw [List.pairwise_cons] at h1 h2
      have ha : a ∈ b :: l2 := hp.mem_iff.1 (by simp)
      have hb : b ∈ a :: l1 := hp.mem_iff.2 (by simp)
      rcases List.mem_cons.1 ha with h | h
      · exact h
      · rcases List.mem_cons.1 hb with h' | h'
        · exact h'.symm
        · exact has a b (h1.1 b h') (h2.1 a h)
    subst e
    rw [perm_srt_eq has (List.Perm.cons_inv hp) (List.pairwise_cons.1 h1).2 (List.pairwise_cons.1 h2).2]
theorem rowF_of (l : List Int) : l.map (IV.int .i64) = rowF l.length (fun m => l.getD m 0) := by
  apply List.ext_getElem (by rw [rowF_len, List.length_map])
  intro i h1 h2
  rw [List.length_map] at h1
  have e := rowF_get (fun m => l.getD m 0) h1
  rw [List.getElem?_eq_getElem h2, Option.some.injEq] at e
  rw [e, List.getElem_map]
  simp [List.getD, h1]
end Go.Proofs.Ytkfjldkememadaa.AM
