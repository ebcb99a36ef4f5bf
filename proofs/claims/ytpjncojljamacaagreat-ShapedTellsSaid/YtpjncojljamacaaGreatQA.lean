
/- Plain facts for sorting: swaps within a part, parts in order, heaps. No condition. slices.Sort: insertion, heaps. No condition but lengths that fit. slices.Sort: heapSort. No condition but lengths that fit. slices.Sort: reverseRange, breakPatterns, choosePivot. No condition but lengths that fit. slices.Sort: choosePivot. No condition but lengths that fit. -/
import Derived.Test.YtpjncojljamacaaGreatAD
import Derived.Test.YtpjncojljamacaaGreatOO

set_option linter.unusedVariables false
set_option linter.unusedSimpArgs false
namespace Go.Proofs.YtpjncojljamacaaGreat.AM
open Go Go.RowKit

def swp {α : Type} (f : Nat → α) (i j : Nat) : Nat → α := fun m => if m = j then f i else if m = i then f j else f m
theorem swp_i {α : Type} (f : Nat → α) (i j : Nat) : swp f i j i = f j := by
  unfold swp
  by_cases h : i = j
  · rw [if_pos h, h]
  · rw [if_neg h, if_pos rfl]
theorem swp_j {α : Type} (f : Nat → α) (i j : Nat) : swp f i j j = f i := by unfold swp; rw [if_pos rfl]
theorem swp_ne {α : Type} (f : Nat → α) {i j m : Nat} (h1 : m ≠ i) (h2 : m ≠ j) : swp f i j m = f m := by unfold swp; rw [if_neg h2, if_neg h1]
inductive Sw {α : Type} (a b : Nat) (f : Nat → α) : (Nat → α) → Prop
  | refl : Sw a b f f
  | swap {g : Nat → α} (h : Sw a b f g) (i j : Nat) (hi : a ≤ i ∧ i < b) (hj : a ≤ j ∧ j < b) : Sw a b f (swp g i j)
section
variable {α : Type} {a b : Nat} {f g h : Nat → α}
theorem Sw.trans (h1 : Sw a b f g) (h2 : Sw a b g h) : Sw a b f h := by
  induction h2 with
  | refl => exact h1
  | swap _ i j hi hj ih => exact ih.swap i j hi hj
theorem Sw.mono {a' b' : Nat} (h1 : Sw a b f g) (ha : a' ≤ a) (hb : b ≤ b') : Sw a' b' f g := by
  induction h1 with
  | refl => exact .refl
  | swap _ i j hi hj ih => exact ih.swap i j ⟨by omega, by omega⟩ ⟨by omega, by omega⟩
theorem Sw.out (h1 : Sw a b f g) {m : Nat} (hm : m < a ∨ b ≤ m) : g m = f m := by
  induction h1 with
  | refl => rfl
  | swap _ i j hi hj ih => rw [swp_ne _ (by omega) (by omega), ih]
theorem Sw.src (h1 : Sw a b f g) {m : Nat} (hm : a ≤ m ∧ m < b) : ∃ k, (a ≤ k ∧ k < b) ∧ g m = f k := by
  induction h1 generalizing m with
  | refl => exact ⟨m, hm, rfl⟩
  | swap _ i j hi hj ih =>
    by_cases e1 : m = j
    · subst e1; rw [swp_j]; exact ih hi
    · by_cases e2 : m = i
      · subst e2; rw [swp_i]; exact ih hj
      · rw [swp_ne _ e2 e1]; exact ih hm
theorem Sw.all (h1 : Sw a b f g) {p : α → Prop} (hp : ∀ i, a ≤ i → i < b → p (f i)) : ∀ i, a ≤ i → i < b → p (g i) := by
  intro i h2 h3
  obtain ⟨k, hk, e⟩ := h1.src ⟨h2, h3⟩
  rw [e]; exact hp k hk.1 hk.2
theorem map_swp_perm (f : Nat → α) {n i j : Nat} (hi : i < n) (hj : j < n) : ((List.range n).map (swp f i j)).Perm ((List.range n).map f) := by
  have hr : ∀ (i j : Nat), i < j → j < n → ((List.range n).map (swp f i j)).Perm ((List.range n).map f) := by
    intro i j hij hj
    have e : List.range n = List.range i ++ i :: (List.range' (i + 1) (j - i - 1)) ++ j :: List.range' (j + 1) (n - j - 1) := by
      have h1 : List.range n = List.range i ++ List.range' i (n - i) := by
        have h := @List.range'_append_1 0 i (n - i)
        rw [Nat.zero_add, show i + (n - i) = n by omega] at h
        rw [List.range_eq_range', List.range_eq_range', h]
      have h2 : List.range' i (n - i) = i :: List.range' (i + 1) (n - i - 1) := by
        rw [show n - i = (n - i - 1) + 1 by omega, List.range'_succ]
        congr 2
      have h3 : List.range' (i + 1) (n - i - 1) = List.range' (i + 1) (j - i - 1) ++ List.range' j (n - j) := by
        have h := @List.range'_append_1 (i + 1) (j - i - 1) (n - j)
        rw [show i + 1 + (j - i - 1) = j by omega, show j - i - 1 + (n - j) = n - i - 1 by omega] at h
        rw [h]
      have h4 : List.range' j (n - j) = j :: List.range' (j + 1) (n - j - 1) := by
        rw [show n - j = (n - j - 1) + 1 by omega, List.range'_succ]
        congr 2
      rw [h1, h2, h3, h4, List.append_assoc, List.cons_append]
    have k1 : (List.range i).map (swp f i j) = (List.range i).map f := List.map_congr_left (fun m hm => by
      have := List.mem_range.1 hm; exact swp_ne f (by omega) (by omega))
    have k2 : (List.range' (i + 1) (j - i - 1)).map (swp f i j) = (List.range' (i + 1) (j - i - 1)).map f := List.map_congr_left (fun m hm => by
      have := List.mem_range'_1.1 hm; exact swp_ne f (by omega) (by omega))
    have k3 : (List.range' (j + 1) (n - j - 1)).map (swp f i j) = (List.range' (j + 1) (n - j - 1)).map f := List.map_congr_left (fun m hm => by
      have := List.mem_range'_1.1 hm; exact swp_ne f (by omega) (by omega))
    rw [e]
    simp only [List.map_append, List.map_cons, k1, k2, k3, swp_i, swp_j]
    generalize List.map f (List.range i) = A
    generalize List.map f (List.range' (i + 1) (j - i - 1)) = B
    generalize List.map f (List.range' (j + 1) (n - j - 1)) = C
    rw [List.append_assoc, List.append_assoc]
    refine List.Perm.append_left A ?_
    simp only [List.cons_append]
    have p1 : (f j :: (B ++ f i :: C)).Perm (f j :: f i :: (B ++ C)) := List.Perm.cons _ List.perm_middle
    have p2 : (f i :: (B ++ f j :: C)).Perm (f i :: f j :: (B ++ C)) := List.Perm.cons _ List.perm_middle
    exact p1.trans ((List.Perm.swap _ _ _).trans p2.symm)
  rcases Nat.lt_trichotomy i j with h | h | h
  · exact hr i j h hj
  · subst h
    have : swp f i i = f := by
      funext m
      unfold swp
      split
      · rename_i h; rw [h]
      · rfl
    rw [this]
  · have : swp f i j = swp f j i := by
      funext m
      unfold swp
      by_cases e1 : m = j
      · rw [if_pos e1]
        by_cases e2 : m = i
        · omega
        · rw [if_neg e2, if_pos e1]
      · rw [if_neg e1]
        by_cases e2 : m = i
        · rw [if_pos e2, if_pos e2]
        · rw [if_neg e2, if_neg e2, if_neg e1]
    rw [this]; exact hr j i h hi
theorem Sw.perm {n : Nat} (h1 : Sw a b f g) (hb : b ≤ n) : ((List.range n).map g).Perm ((List.range n).map f) := by
  induction h1 with
  | refl => exact List.Perm.refl _
  | swap _ i j hi hj ih => exact (map_swp_perm _ (by omega) (by omega)).trans ih
end
def Srt (f : Nat → Int) (a b : Nat) : Prop := ∀ p q, a ≤ p → p < q → q < b → f p ≤ f q
theorem Srt.small (f : Nat → Int) {a b : Nat} (h : b ≤ a + 1) : Srt f a b := fun p q h1 h2 h3 => by omega
def Prs (g : Nat → Int) (a b a' b' : Nat) : Prop := ∀ p q, a ≤ p → p < q → q < b → (p < a' ∨ b' ≤ q) → g p ≤ g q
theorem Prs.start (g : Nat → Int) (a b : Nat) : Prs g a b a b := fun p q h1 h2 h3 h4 => by omega
theorem Prs.sw {g g' : Nat → Int} {a b a' b' : Nat} (h : Prs g a b a' b') (hs : Sw a' b' g g') (ha : a ≤ a') (hb : b' ≤ b) : Prs g' a b a' b' := by
  intro p q h1 h2 h3 h4
  by_cases hp : a' ≤ p ∧ p < b'
  · obtain ⟨k, hk, e⟩ := hs.src hp
    rw [e, hs.out (m := q) (by omega)]
    exact h k q (by omega) (by omega) h3 (by omega)
  · rw [hs.out (m := p) (by omega)]
    by_cases hq : a' ≤ q ∧ q < b'
    · obtain ⟨k, hk, e⟩ := hs.src hq
      rw [e]; exact h p k h1 (by omega) (by omega) (by omega)
    · rw [hs.out (m := q) (by omega)]; exact h p q h1 h2 h3 h4
theorem Prs.done {g : Nat → Int} {a b a' b' : Nat} (h : Prs g a b a' b') (hs : Srt g a' b') : Srt g a b := by
  intro p q h1 h2 h3
  by_cases hc : p < a' ∨ b' ≤ q
  · exact h p q h1 h2 h3 hc
  · exact hs p q (by omega) h2 (by omega)
def Low (f : Nat → Int) (a b : Nat) : Prop := a = 0 ∨ ∀ i, a ≤ i → i < b → f (a - 1) ≤ f i
theorem Low.sw {g g' : Nat → Int} {a b : Nat} (h : Low g a b) (hs : Sw a b g g') : Low g' a b := by
  rcases h with h | h
  · exact .inl h
  · by_cases ha : a = 0
    · exact .inl ha
    · refine .inr ?_
      rw [hs.out (m := a - 1) (by omega)]
      exact hs.all (p := fun x => g (a - 1) ≤ x) h
/-! ### insertion -/
def InsI (g : Nat → Int) (a i j : Nat) : Prop := ∀ p q, a ≤ p → p < q → q ≤ i → q ≠ j → g p ≤ g q
theorem InsI.start {g : Nat → Int} {a i : Nat} (h : Srt g a i) : InsI g a i i := fun p q h1 h2 h3 h4 => h p q h1 h2 (by omega)
theorem InsI.done {g : Nat → Int} {a i j : Nat} (h : InsI g a i j) (hj : j ≤ i) (hd : j = a ∨ g (j - 1) ≤ g j) (haj : a ≤ j) : Srt g a (i + 1) := by
  intro p q h1 h2 h3
  by_cases e : q = j
  · subst e
    rcases hd with hd | hd
    · omega
    · by_cases e2 : p = q - 1
      · rw [e2]; exact hd
      · have := h p (q - 1) h1 (by omega) (by omega) (by omega); omega
  · exact h p q h1 h2 (by omega) e
theorem InsI.step {g : Nat → Int} {a i j : Nat} (h : InsI g a i j) (hj : j ≤ i) (haj : a < j) (hl : g j < g (j - 1)) : InsI (swp g j (j - 1)) a i (j - 1) := by
  intro p q h1 h2 h3 h4
  have hne : j ≠ j - 1 := by omega
  by_cases eq : q = j
  · subst eq
    rw [swp_i]
    by_cases ep : p = q - 1
    · rw [ep, swp_j]; omega
    · rw [swp_ne _ (by omega) ep]; exact h p (q - 1) h1 (by omega) (by omega) (by omega)
  · rw [swp_ne _ eq h4]
    by_cases ep : p = j
    · subst ep; rw [swp_i]; exact h (p - 1) q (by omega) (by omega) h3 eq
    · by_cases ep2 : p = j - 1
      · subst ep2
        rw [swp_j]
        exact h j q (by omega) (by omega) h3 eq
      · rw [swp_ne _ ep ep2]; exact h p q h1 h2 h3 eq
/-! ### heaps -/
def HpX (g : Nat → Int) (fst lo hi x : Nat) : Prop := ∀ i c, lo ≤ i → i ≠ x → (c = 2 * i + 1 ∨ c = 2 * i + 2) → c < hi → g (fst + c) ≤ g (fst + i)
def Hp (g : Nat → Int) (fst lo hi : Nat) : Prop := ∀ i c, lo ≤ i → (c = 2 * i + 1 ∨ c = 2 * i + 2) → c < hi → g (fst + c) ≤ g (fst + i)
def HpP (g : Nat → Int) (fst lo hi x : Nat) : Prop := ∀ p c, lo ≤ p → (x = 2 * p + 1 ∨ x = 2 * p + 2) → (c = 2 * x + 1 ∨ c = 2 * x + 2) → c < hi → g (fst + c) ≤ g (fst + p)
theorem HpX.start {g : Nat → Int} {fst lo hi : Nat} (h : Hp g fst (lo + 1) hi) : HpX g fst lo hi lo := fun i c h1 h2 h3 h4 => h i c (by omega) h3 h4
theorem HpP.start (g : Nat → Int) (fst lo hi : Nat) : HpP g fst lo hi lo := fun p c h1 h2 h3 h4 => by omega
theorem HpX.done {g : Nat → Int} {fst lo hi x : Nat} (h : HpX g fst lo hi x) (hx : ∀ c, (c = 2 * x + 1 ∨ c = 2 * x + 2) → c < hi → g (fst + c) ≤ g (fst + x)) : Hp g fst lo hi := by
  intro i c h1 h2 h3
  by_cases e : i = x
  · subst e; exact hx c h2 h3
  · exact h i c h1 e h2 h3
theorem HpX.step {g : Nat → Int} {fst lo hi x c : Nat} (h : HpX g fst lo hi x) (hp : HpP g fst lo hi x) (hlo : lo ≤ x) (hc : c = 2 * x + 1 ∨ c = 2 * x + 2) (hch : c < hi)
    (hm : ∀ d, (d = 2 * x + 1 ∨ d = 2 * x + 2) → d < hi → g (fst + d) ≤ g (fst + c)) (hl : g (fst + x) < g (fst + c)) :
    HpX (swp g (fst + x) (fst + c)) fst lo hi c ∧ HpP (swp g (fst + x) (fst + c)) fst lo hi c := by
  constructor
  · intro i d h1 h2 h3 h4
    by_cases ei : i = x
    · subst ei
      rw [swp_i]
      by_cases ed : d = c
      · subst ed; rw [swp_j]; omega
      · rw [swp_ne _ (by omega) (by omega)]; exact hm d h3 h4
    · rw [swp_ne (m := fst + i) _ (by omega) (by omega)]
      by_cases ed : d = x
      · subst ed; rw [swp_i]; exact hp i c h1 h3 hc hch
      · by_cases ed2 : d = c
        · omega
        · rw [swp_ne _ (by omega) (by omega)]; exact h i d h1 ei h3 h4
  · intro p d h1 h2 h3 h4
    have e : p = x := by omega
    subst e
    rw [swp_i, swp_ne _ (by omega) (by omega)]
    exact h c d (by omega) (by omega) h3 h4
end Go.Proofs.YtpjncojljamacaaGreat.AM

set_option linter.unusedVariables false
set_option linter.unusedSimpArgs false
set_option maxRecDepth 20000
namespace Go.Proofs.YtpjncojljamacaaGreat.AM
open Go Go.RowKit

def rwM (n : Nat) (f : Nat → Int) : List MO := [.row true 3 1 (rowF n f)]
attribute [go_sem] rwM
theorem swp_row (n : Nat) (g : Nat → Int) (i j : Nat) : ((rowF n g).set i (.int .i64 (g j))).set j (.int .i64 (g i)) = rowF n (swp g i j) := by
  rw [rowF_set, rowF_set]; rfl
theorem swp_get {n : Nat} (g : Nat → Int) {i j : Nat} (h : j < n) : ((rowF n g).set i (.int .i64 (g j)))[j]? = some (.int .i64 (g j)) := by
  rw [List.getElem?_set]
  by_cases e : i = j
  · subst e; rw [if_pos rfl, rowF_len, if_pos h]
  · rw [if_neg e, rowF_get _ h]
end Go.Proofs.YtpjncojljamacaaGreat.AM

set_option linter.unusedVariables false
set_option linter.unusedSimpArgs false
set_option maxRecDepth 20000
namespace Go.Proofs.YtpjncojljamacaaGreat.AM
open Go Go.RowKit

end Go.Proofs.YtpjncojljamacaaGreat.AM

set_option linter.unusedVariables false
set_option linter.unusedSimpArgs false
set_option maxRecDepth 20000
namespace Go.Proofs.YtpjncojljamacaaGreat.AM
open Go Go.RowKit

def xsM (y : Int) : List MO := [.var 140 [.iv (.int .u64 y)]]
attribute [go_sem] xsM
end Go.Proofs.YtpjncojljamacaaGreat.AM

set_option linter.unusedVariables false
set_option linter.unusedSimpArgs false
set_option maxRecDepth 20000
namespace Go.Proofs.YtpjncojljamacaaGreat.AM
open Go Go.RowKit

def swM (c : Nat) : List MO := [.var 3 [.iv (.int .i64 c)]]
attribute [go_sem] swM
end Go.Proofs.YtpjncojljamacaaGreat.AM
