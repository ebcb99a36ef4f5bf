
/- slices.Sort: partitions. No condition but lengths that fit. slices.Sort: partitionEqual. No condition but lengths that fit. slices.Sort: partialInsertionSort. No condition but lengths that fit. slices.Sort: pdqsort. No condition but lengths that fit. slices.Sort, Compact, BinarySearch. No condition but lengths that fit. -/
import Derived.Test.YtpjncojljamacaaGreatQA

set_option linter.unusedVariables false
set_option linter.unusedSimpArgs false
set_option maxRecDepth 20000
namespace Go.Proofs.YtpjncojljamacaaGreat.AM
open Go Go.RowKit

structure PtI (L : Int → Prop) (f g : Nat → Int) (a b i j : Nat) (p : Int) : Prop where
  i0 : a + 1 ≤ i
  ij : i ≤ j
  jb : j ≤ b
  sw : Sw a b f g
  ga : g a = p
  lo : ∀ m, a + 1 ≤ m → m < i → L (g m)
  hi : ∀ m, j ≤ m → m < b → ¬ L (g m)
theorem PtI.start {L : Int → Prop} {f : Nat → Int} {a b k : Nat} (hk : a ≤ k ∧ k < b) : PtI L f (swp f a k) a b (a + 1) b (f k) :=
  ⟨Nat.le_refl _, by omega, Nat.le_refl _, Sw.refl.swap _ _ (by omega) hk, swp_i _ _ _, fun m h1 h2 => by omega, fun m h1 h2 => by omega⟩
theorem PtI.inc {L : Int → Prop} {f g : Nat → Int} {a b i j : Nat} {p : Int} (h : PtI L f g a b i j p) (hij : i < j) (hl : L (g i)) : PtI L f g a b (i + 1) j p :=
  ⟨by have := h.i0; omega, hij, h.jb, h.sw, h.ga, fun m h1 h2 => by
    by_cases e : m = i
    · rw [e]; exact hl
    · exact h.lo m h1 (by omega), h.hi⟩
theorem PtI.dec {L : Int → Prop} {f g : Nat → Int} {a b i j : Nat} {p : Int} (h : PtI L f g a b i j p) (hij : i < j) (hl : ¬ L (g (j - 1))) : PtI L f g a b i (j - 1) p :=
  ⟨h.i0, by omega, by have := h.jb; omega, h.sw, h.ga, h.lo, fun m h1 h2 => by
    by_cases e : m = j - 1
    · rw [e]; exact hl
    · exact h.hi m (by omega) h2⟩
theorem PtI.swap {L : Int → Prop} {f g : Nat → Int} {a b i j : Nat} {p : Int} (h : PtI L f g a b i j p) (hij : i < j) (h1 : ¬ L (g i)) (h2 : L (g (j - 1))) : i + 1 ≤ j - 1 ∧ PtI L f (swp g i (j - 1)) a b (i + 1) (j - 1) p := by
  have hne : i ≠ j - 1 := fun e => h1 (e ▸ h2)
  have h0 := h.i0
  have hb := h.jb
  refine ⟨by omega, by omega, by omega, by omega, h.sw.swap _ _ (by omega) (by omega), by rw [swp_ne _ (by omega) (by omega)]; exact h.ga, fun m h3 h4 => ?_, fun m h3 h4 => ?_⟩
  · by_cases e : m = i
    · subst e; rw [swp_i]; exact h2
    · rw [swp_ne _ e (by omega)]; exact h.lo m h3 (by omega)
  · by_cases e : m = j - 1
    · subst e; rw [swp_j]; exact h1
    · rw [swp_ne _ (by omega) e]; exact h.hi m (by omega) h4
theorem PtI.done {L : Int → Prop} {f g : Nat → Int} {a b i j : Nat} {p : Int} (h : PtI L f g a b i j p) (hij : i = j) (hLp : ∀ x, L x ↔ x < p) :
    Sw a b f (swp g (j - 1) a) ∧ (∀ q, a ≤ q → q < j - 1 → swp g (j - 1) a q < swp g (j - 1) a (j - 1)) ∧ (∀ q, j - 1 < q → q < b → swp g (j - 1) a (j - 1) ≤ swp g (j - 1) a q) := by
  have h0 := h.i0
  have hb := h.jb
  refine ⟨h.sw.swap _ _ (by omega) (by omega), fun q h1 h2 => ?_, fun q h1 h2 => ?_⟩
  · rw [swp_i, h.ga]
    by_cases e : q = a
    · subst e; rw [swp_j]; exact (hLp _).1 (h.lo (j - 1) (by omega) (by omega))
    · rw [swp_ne _ (by omega) e]; exact (hLp _).1 (h.lo q (by omega) (by omega))
  · rw [swp_i, h.ga, swp_ne _ (by omega) (by omega)]
    have := h.hi q (by omega) h2
    rw [hLp] at this; omega

end Go.Proofs.YtpjncojljamacaaGreat.AM

set_option linter.unusedVariables false
set_option linter.unusedSimpArgs false
set_option maxRecDepth 20000
namespace Go.Proofs.YtpjncojljamacaaGreat.AM
open Go Go.RowKit

end Go.Proofs.YtpjncojljamacaaGreat.AM

set_option linter.unusedVariables false
set_option linter.unusedSimpArgs false
set_option maxRecDepth 20000
namespace Go.Proofs.YtpjncojljamacaaGreat.AM
open Go Go.RowKit

theorem Srt.more {g : Nat → Int} {a i : Nat} (h : Srt g a i) (hi : a < i) (hl : g (i - 1) ≤ g i) : Srt g a (i + 1) := by
  intro p q h1 h2 h3
  by_cases e : q = i
  · subst e
    by_cases e2 : p = q - 1
    · rw [e2]; exact hl
    · have := h p (q - 1) h1 (by omega) (by omega); omega
  · exact h p q h1 h2 (by omega)
end Go.Proofs.YtpjncojljamacaaGreat.AM

set_option linter.unusedVariables false
set_option linter.unusedSimpArgs false
set_option maxRecDepth 20000
namespace Go.Proofs.YtpjncojljamacaaGreat.AM
open Go Go.RowKit

theorem Low.part {g : Nat → Int} {a b a' b' : Nat} (h : Low g a b) (hp : Prs g a b a' b') (ha : a ≤ a') (hb : b' ≤ b) : Low g a' b' := by
  by_cases e : a' = a
  · subst e
    rcases h with h | h
    · exact .inl h
    · exact .inr (fun i h1 h2 => h i h1 (by omega))
  · exact .inr (fun i h1 h2 => hp (a' - 1) i (by omega) (by omega) (by omega) (by omega))
theorem Low.sub {g : Nat → Int} {a b b' : Nat} (h : Low g a b) (hb : b' ≤ b) : Low g a b' := by
  rcases h with h | h
  · exact .inl h
  · exact .inr (fun i h1 h2 => h i h1 (by omega))
theorem prs_left {g g' : Nat → Int} {a b a' b' m : Nat} (hp : Prs g a b a' b') (hm : a' ≤ m ∧ m < b') (hlo : ∀ q, a' ≤ q → q < m → g q < g m) (hhi : ∀ q, m < q → q < b' → g m ≤ g q)
    (hs : Sw a' m g g') (hst : Srt g' a' m) (ha : a ≤ a') (hb : b' ≤ b) : Prs g' a b (m + 1) b' := by
  have hp' := hp.sw (hs.mono (Nat.le_refl _) (Nat.le_of_lt hm.2)) ha hb
  intro p q h1 h2 h3 h4
  by_cases hc : p < a' ∨ b' ≤ q
  · exact hp' p q h1 h2 h3 hc
  · by_cases hpm : p < m
    · by_cases hqm : q < m
      · exact hst p q (by omega) h2 hqm
      · have e1 := hs.all (p := fun x => x < g m) hlo p (by omega) hpm
        rw [hs.out (m := q) (by omega)]
        by_cases e : q = m
        · subst e; omega
        · have := hhi q (by omega) (by omega); omega
    · have e : p = m := by omega
      subst e
      rw [hs.out (m := p) (by omega), hs.out (m := q) (by omega)]
      exact hhi q h2 (by omega)
theorem prs_right {g g' : Nat → Int} {a b a' b' m : Nat} (hp : Prs g a b a' b') (hm : a' ≤ m ∧ m < b') (hlo : ∀ q, a' ≤ q → q < m → g q < g m) (hhi : ∀ q, m < q → q < b' → g m ≤ g q)
    (hs : Sw (m + 1) b' g g') (hst : Srt g' (m + 1) b') (ha : a ≤ a') (hb : b' ≤ b) : Prs g' a b a' m := by
  have hp' := hp.sw (hs.mono (by omega) (Nat.le_refl _)) ha hb
  intro p q h1 h2 h3 h4
  by_cases hc : p < a' ∨ b' ≤ q
  · exact hp' p q h1 h2 h3 hc
  · by_cases hpm : m < p
    · exact hst p q (by omega) h2 (by omega)
    · rw [hs.out (m := p) (by omega)]
      have e0 : g p ≤ g m := by
        by_cases e : p = m
        · rw [e]; exact Int.le_refl _
        · have := hlo p (by omega) (by omega); omega
      by_cases hqm : q = m
      · subst hqm; rw [hs.out (m := q) (by omega)]; exact e0
      · have e1 := hs.all (p := fun x => g m ≤ x) (fun i h1 h2 => hhi i (by omega) h2) q (by omega) (by omega)
        omega
end Go.Proofs.YtpjncojljamacaaGreat.AM

set_option linter.unusedVariables false
set_option linter.unusedSimpArgs false
set_option maxRecDepth 20000
namespace Go.Proofs.YtpjncojljamacaaGreat.AM
open Go Go.RowKit

def sortI (l : List Int) : List Int := l.mergeSort (fun a b => decide (a ≤ b))
theorem sortI_perm (l : List Int) : (sortI l).Perm l := List.mergeSort_perm l _
theorem sortI_srt (l : List Int) : (sortI l).Pairwise (· ≤ ·) := by
  have := List.pairwise_mergeSort (le := fun (a b : Int) => decide (a ≤ b)) (fun a b c h1 h2 => by
    rw [decide_eq_true_eq] at h1 h2 ⊢; omega) (fun a b => by
    rw [Bool.or_eq_true, decide_eq_true_eq, decide_eq_true_eq]; omega) l
  exact this.imp (fun h => by rwa [decide_eq_true_eq] at h)
theorem sortI_len (l : List Int) : (sortI l).length = l.length := (sortI_perm l).length_eq
theorem perm_srt_eq {α : Type} {r : α → α → Prop} (has : ∀ a b, r a b → r b a → a = b) : ∀ {l1 l2 : List α}, l1.Perm l2 → l1.Pairwise r → l2.Pairwise r → l1 = l2
  | [], l2, hp, _, _ => by
    have := hp.length_eq
    exact (List.eq_nil_of_length_eq_zero (by simpa using this.symm)).symm
  | a :: l1, [], hp, _, _ => by have := hp.length_eq; simp at this
  | a :: l1, b :: l2, hp, h1, h2 => by
    have e : a = b := by
      rw [List.pairwise_cons] at h1 h2
      have ha : a ∈ b :: l2 := hp.mem_iff.1 (by simp)
      have hb : b ∈ a :: l1 := hp.mem_iff.2 (by simp)
      rcases List.mem_cons.1 ha with h | h
      · exact h
      · rcases List.mem_cons.1 hb with h' | h'
        · exact h'.symm
        · exact has a b (h1.1 b h') (h2.1 a h)
    subst e
    rw [perm_srt_eq has (List.Perm.cons_inv hp) (List.pairwise_cons.1 h1).2 (List.pairwise_cons.1 h2).2]
theorem sortI_eq {l m : List Int} (hp : m.Perm l) (hs : m.Pairwise (· ≤ ·)) : m = sortI l :=
  perm_srt_eq (fun a b h1 h2 => Int.le_antisymm h1 h2) (hp.trans (sortI_perm l).symm) hs (sortI_srt l)
theorem rowF_of (l : List Int) : l.map (IV.int .i64) = rowF l.length (fun m => l.getD m 0) := by
  apply List.ext_getElem (by rw [rowF_len, List.length_map])
  intro i h1 h2
  rw [List.length_map] at h1
  have e := rowF_get (fun m => l.getD m 0) h1
  rw [List.getElem?_eq_getElem h2, Option.some.injEq] at e
  rw [e, List.getElem_map]
  simp [List.getD, h1]
theorem range_getD (l : List Int) : (List.range l.length).map (fun m => l.getD m 0) = l := by
  apply List.ext_getElem (by simp)
  intro i h1 h2
  simp [List.getD, h2]
theorem rowF_map (n : Nat) (g : Nat → Int) : rowF n g = ((List.range n).map g).map (IV.int .i64) := by
  unfold rowF; rw [List.map_map]; rfl
theorem Srt.pair {g : Nat → Int} {n : Nat} (h : Srt g 0 n) : ((List.range n).map g).Pairwise (· ≤ ·) := by
  rw [List.pairwise_map, List.pairwise_iff_getElem]
  intro i j hi hj hij
  rw [List.getElem_range, List.getElem_range]
  exact h i j (Nat.zero_le _) hij (by simpa using hj)
end Go.Proofs.YtpjncojljamacaaGreat.AM
