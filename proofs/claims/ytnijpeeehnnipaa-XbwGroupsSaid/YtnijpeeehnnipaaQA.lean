
/- Plain facts for sorting: swaps within a part, parts in order, heaps. No condition. slices.Sort: insertion, heaps. No condition but lengths that fit. slices.Sort: heapSort. No condition but lengths that fit. slices.Sort: reverseRange, breakPatterns, choosePivot. No condition but lengths that fit. slices.Sort: choosePivot. No condition but lengths that fit. -/
import Derived.Test.YtnijpeeehnnipaaAD
import Derived.Test.YtnijpeeehnnipaaOO

set_option linter.unusedVariables false
set_option linter.unusedSimpArgs false
namespace Go.Proofs.Ytnijpeeehnnipaa.AM
open Go Go.RowKit

def swp {α : Type} (f : Nat → α) (i j : Nat) : Nat → α := fun m => if m = j then f i else if m = i then f j else f m
theorem swp_i {α : Type} (f : Nat → α) (i j : Nat) : swp f i j i = f j := by
  unfold swp
  by_cases h : i = j
  · rw [if_pos h, h]
  · rw [if_neg h, if_pos rfl]
theorem swp_j {α : Type} (f : Nat → α) (i j : Nat) : swp f i j j = f i := by unfold swp; rw [if_pos rfl]
theorem swp_ne {α : Type} (f : Nat → α) {i j m : Nat} (h1 : m ≠ i) (h2 : m ≠ j) : swp f i j m = f m := by unfold swp; rw [if_neg h2, if_neg h1]
inductive Sw {α : Type} (a b : Nat) (f : Nat → α) : (Nat → α) → Prop
  | refl : Sw a b f f
  | swap {g : Nat → α} (h : Sw a b f g) (i j : Nat) (hi : a ≤ i ∧ i < b) (hj : a ≤ j ∧ j < b) : Sw a b f (swp g i j)
section
variable {α : Type} {a b : Nat} {f g h : Nat → α}
theorem Sw.trans (h1 : Sw a b f g) (h2 : Sw a b g h) : Sw a b f h := by
  induction h2 with
  | refl => exact h1
  | swap _ i j hi hj ih => exact ih.swap i j hi hj
theorem Sw.mono {a' b' : Nat} (h1 : Sw a b f g) (ha : a' ≤ a) (hb : b ≤ b') : Sw a' b' f g := by
  induction h1 with
  | refl => exact .refl
  | swap _ i j hi hj ih => exact ih.swap i j ⟨by omega, by omega⟩ ⟨by omega, by omega⟩
theorem Sw.out (h1 : Sw a b f g) {m : Nat} (hm : m < a ∨ b ≤ m) : g m = f m := by
  induction h1 with
  | refl => rfl
  | swap _ i j hi hj ih => rw [swp_ne _ (by omega) (by omega), ih]
theorem Sw.src (h1 : Sw a b f g) {m : Nat} (hm : a ≤ m ∧ m < b) : ∃ k, (a ≤ k ∧ k < b) ∧ g m = f k := by
  induction h1 generalizing m with
  | refl => exact ⟨m, hm, rfl⟩
  | swap _ i j hi hj ih =>
    by_cases e1 : m = j
    · subst e1; rw [swp_j]; exact ih hi
    · by_cases e2 : m = i
      · subst e2; rw [swp_i]; exact ih hj
      · rw [swp_ne _ e2 e1]; exact ih hm
theorem Sw.all (h1 : Sw a b f g) {p : α → Prop} (hp : ∀ i, a ≤ i → i < b → p (f i)) : ∀ i, a ≤ i → i < b → p (g i) := by
  intro i h2 h3
  obtain ⟨k, hk, e⟩ := h1.src ⟨h2, h3⟩
  rw [e]; exact hp k hk.1 hk.2
theorem map_swp_perm (f : Nat → α) {n i j : Nat} (hi : i < n) (hj : j < n) : ((List.range n).map (swp f i j)).Perm ((List.range n).map f) := by
  have hr : ∀ (i j : Nat), i < j → j < n → ((List.range n).map (swp f i j)).Perm ((List.range n).map f) := by
    intro i j hij hj
    have e : List.range n = List.range i ++ i :: (List.range' (i + 1) (j - i - 1)) ++ j :: List.range' (j + 1) (n - j - 1) := by
      have h1 : List.range n = List.range i ++ List.range' i (n - i) := by
        have h := @List.range'_append_1 0 i (n - i)
        rw [Nat.zero_add, show i + (n - i) = n by omega] at h
        rw [List.range_eq_range', List.range_eq_range', h]
      have h2 : List.range' i (n - i) = i :: List.range' (i + 1) (n - i - 1) := by
        rw [show n - i = (n - i - 1) + 1 by omega, List.range'_succ]
        congr 2
      have h3 : List.range' (i + 1) (n - i - 1) = List.range' (i + 1) (j - i - 1) ++ List.range' j (n - j) := by
        have h := @List.range'_append_1 (i + 1) (j - i - 1) (n - j)
        rw [show i + 1 + (j - i - 1) = j by omega, show j - i - 1 + (n - j) = n - i - 1 by omega] at h
        rw [h]
      have h4 : List.range' j (n - j) = j :: List.range' (j + 1) (n - j - 1) := by
        rw [show n - j = (n - j - 1) + 1 by omega, List.range'_succ]
        congr 2
      rw [h1, h2, h3, h4, List.append_assoc, List.cons_append]
    have k1 : (List.range i).map (swp f i j) = (List.range i).map f := List.map_congr_left (fun m hm => by
      have := List.mem_range.1 hm; exact swp_ne f (by omega) (by omega))
    have k2 : (List.range' (i + 1) (j - i - 1)).map (swp f i j) = (List.range' (i + 1) (j - i - 1)).map f := List.map_congr_left (fun m hm => by
      have := List.mem_range'_1.1 hm; exact swp_ne f (by omega) (by omega))
    have k3 : (List.range' (j + 1) (n - j - 1)).map (swp f i j) = (List.range' (j + 1) (n - j - 1)).map f := List.map_congr_left (fun m hm => by
      have := List.mem_range'_1.1 hm; exact swp_ne f (by omega) (by omega))
    rw [e]
    simp only [List.map_append, List.map_cons, k1, k2, k3, swp_i, swp_j]
    generalize List.map f (List.range i) = A
    generalize List.map f (List.range' (i + 1) (j - i - 1)) = B
    generalize List.map f (List.range' (j + 1) (n - j - 1)) = C
    rw [List.append_assoc, List.append_assoc]
    refine List.Perm.append_left A ?_
    simp only [List.cons_append]
    have p1 : (f j :: (B ++ f i :: C)).Perm (f j :: f i :: (B ++ C)) := List.Perm.cons _ List.perm_middle
    have p2 : (f i :: (B ++ f j :: C)).Perm (f i :: f j :: (B ++ C)) := List.Perm.cons _ List.perm_middle
    exact p1.trans ((List.Perm.swap _ _ _).trans p2.symm)
  rcases Nat.lt_trichotomy i j with h | h | h
  · exact hr i j h hj
  · subst h
    have : swp f i i = f := by
      funext m
      unfold swp
      split
      · rename_i h; rw [h]
      · rfl
    rw [this]
  · have : swp f i j = swp f j i := by
      funext m
      unfold swp
      by_cases e1 : m = j
      · rw [if_pos e1]
        by_cases e2 : m = i
        · omega
        · rw [if_neg e2, if_pos e1]
      · rw [if_neg e1]
        by_cases e2 : m = i
        · rw [if_pos e2, if_pos e2]
        · rw [if_neg e2, if_neg e2, if_neg e1]
    rw [this]; exact hr j i h hi
theorem Sw.perm {n : Nat} (h1 : Sw a b f g) (hb : b ≤ n) : ((List.range n).map g).Perm ((List.range n).map f) := by
  induction h1 with
  | refl => exact List.Perm.refl _
  | swap _ i j hi hj ih => exact (map_swp_perm _ (by omega) (by omega)).trans ih
end
def Srt (f : Nat → Int) (a b : Nat) : Prop := ∀ p q, a ≤ p → p < q → q < b → f p ≤ f q
theorem Srt.small (f : Nat → Int) {a b : Nat} (h : b ≤ a + 1) : Srt f a b := fun p q h1 h2 h3 => by omega
theorem srt_adj {f : Nat → Int} {a b : Nat} (h : ∀ i, a ≤ i → i + 1 < b → f i ≤ f (i + 1)) : Srt f a b := by
  intro p q h1 h2 h3
  induction q with
  | zero => omega
  | succ q ih =>
    by_cases e : p = q
    · subst e; exact h p h1 h3
    · have := ih (by omega) (by omega)
      have := h q (by omega) h3
      omega
def Prs (g : Nat → Int) (a b a' b' : Nat) : Prop := ∀ p q, a ≤ p → p < q → q < b → (p < a' ∨ b' ≤ q) → g p ≤ g q
theorem Prs.start (g : Nat → Int) (a b : Nat) : Prs g a b a b := fun p q h1 h2 h3 h4 => by omega
theorem Prs.sw {g g' : Nat → Int} {a b a' b' : Nat} (h : Prs g a b a' b') (hs : Sw a' b' g g') (ha : a ≤ a') (hb : b' ≤ b) : Prs g' a b a' b' := by
  intro p q h1 h2 h3 h4
  by_cases hp : a' ≤ p ∧ p < b'
  · obtain ⟨k, hk, e⟩ := hs.src hp
    rw [e, hs.out (m := q) (by omega)]
    exact h k q (by omega) (by omega) h3 (by omega)
  · rw [hs.out (m := p) (by omega)]
    by_cases hq : a' ≤ q ∧ q < b'
    · obtain ⟨k, hk, e⟩ := hs.src hq
      rw [e]; exact h p k h1 (by omega) (by omega) (by omega)
    · rw [hs.out (m := q) (by omega)]; exact h p q h1 h2 h3 h4
theorem Prs.done {g : Nat → Int} {a b a' b' : Nat} (h : Prs g a b a' b') (hs : Srt g a' b') : Srt g a b := by
  intro p q h1 h2 h3
  by_cases hc : p < a' ∨ b' ≤ q
  · exact h p q h1 h2 h3 hc
  · exact hs p q (by omega) h2 (by omega)
def Low (f : Nat → Int) (a b : Nat) : Prop := a = 0 ∨ ∀ i, a ≤ i → i < b → f (a - 1) ≤ f i
theorem Low.sw {g g' : Nat → Int} {a b : Nat} (h : Low g a b) (hs : Sw a b g g') : Low g' a b := by
  rcases h with h | h
  · exact .inl h
  · by_cases ha : a = 0
    · exact .inl ha
    · refine .inr ?_
      rw [hs.out (m := a - 1) (by omega)]
      exact hs.all (p := fun x => g (a - 1) ≤ x) h
/-! ### insertion -/
def InsI (g : Nat → Int) (a i j : Nat) : Prop := ∀ p q, a ≤ p → p < q → q ≤ i → q ≠ j → g p ≤ g q
theorem InsI.start {g : Nat → Int} {a i : Nat} (h : Srt g a i) : InsI g a i i := fun p q h1 h2 h3 h4 => h p q h1 h2 (by omega)
theorem InsI.done {g : Nat → Int} {a i j : Nat} (h : InsI g a i j) (hj : j ≤ i) (hd : j = a ∨ g (j - 1) ≤ g j) (haj : a ≤ j) : Srt g a (i + 1) := by
  intro p q h1 h2 h3
  by_cases e : q = j
  · subst e
    rcases hd with hd | hd
    · omega
    · by_cases e2 : p = q - 1
      · rw [e2]; exact hd
      · have := h p (q - 1) h1 (by omega) (by omega) (by omega); omega
  · exact h p q h1 h2 (by omega) e
theorem InsI.step {g : Nat → Int} {a i j : Nat} (h : InsI g a i j) (hj : j ≤ i) (haj : a < j) (hl : g j < g (j - 1)) : InsI (swp g j (j - 1)) a i (j - 1) := by
  intro p q h1 h2 h3 h4
  have hne : j ≠ j - 1 := by omega
  by_cases eq : q = j
  · subst eq
    rw [swp_i]
    by_cases ep : p = q - 1
    · rw [ep, swp_j]; omega
    · rw [swp_ne _ (by omega) ep]; exact h p (q - 1) h1 (by omega) (by omega) (by omega)
  · rw [swp_ne _ eq h4]
    by_cases ep : p = j
    · subst ep; rw [swp_i]; exact h (p - 1) q (by omega) (by omega) h3 eq
    · by_cases ep2 : p = j - 1
      · subst ep2
        rw [swp_j]
        exact h j q (by omega) (by omega) h3 eq
      · rw [swp_ne _ ep ep2]; exact h p q h1 h2 h3 eq
/-! ### heaps -/
def HpX (g : Nat → Int) (fst lo hi x : Nat) : Prop := ∀ i c, lo ≤ i → i ≠ x → (c = 2 * i + 1 ∨ c = 2 * i + 2) → c < hi → g (fst + c) ≤ g (fst + i)
def Hp (g : Nat → Int) (fst lo hi : Nat) : Prop := ∀ i c, lo ≤ i → (c = 2 * i + 1 ∨ c = 2 * i + 2) → c < hi → g (fst + c) ≤ g (fst + i)
def HpP (g : Nat → Int) (fst lo hi x : Nat) : Prop := ∀ p c, lo ≤ p → (x = 2 * p + 1 ∨ x = 2 * p + 2) → (c = 2 * x + 1 ∨ c = 2 * x + 2) → c < hi → g (fst + c) ≤ g (fst + p)
theorem HpX.start {g : Nat → Int} {fst lo hi : Nat} (h : Hp g fst (lo + 1) hi) : HpX g fst lo hi lo := fun i c h1 h2 h3 h4 => h i c (by omega) h3 h4
theorem HpP.start (g : Nat → Int) (fst lo hi : Nat) : HpP g fst lo hi lo := fun p c h1 h2 h3 h4 => by omega
theorem HpX.done {g : Nat → Int} {fst lo hi x : Nat} (h : HpX g fst lo hi x) (hx : ∀ c, (c = 2 * x + 1 ∨ c = 2 * x + 2) → c < hi → g (fst + c) ≤ g (fst + x)) : Hp g fst lo hi := by
  intro i c h1 h2 h3
  by_cases e : i = x
  · subst e; exact hx c h2 h3
  · exact h i c h1 e h2 h3
theorem HpX.step {g : Nat → Int} {fst lo hi x c : Nat} (h : HpX g fst lo hi x) (hp : HpP g fst lo hi x) (hlo : lo ≤ x) (hc : c = 2 * x + 1 ∨ c = 2 * x + 2) (hch : c < hi)
    (hm : ∀ d, (d = 2 * x + 1 ∨ d = 2 * x + 2) → d < hi → g (fst + d) ≤ g (fst + c)) (hl : g (fst + x) < g (fst + c)) :
    HpX (swp g (fst + x) (fst + c)) fst lo hi c ∧ HpP (swp g (fst + x) (fst + c)) fst lo hi c := by
  constructor
  · intro i d h1 h2 h3 h4
    by_cases ei : i = x
    · subst ei
      rw [swp_i]
      by_cases ed : d = c
      · subst ed; rw [swp_j]; omega
      · rw [swp_ne _ (by omega) (by omega)]; exact hm d h3 h4
    · rw [swp_ne (m := fst + i) _ (by omega) (by omega)]
      by_cases ed : d = x
      · subst ed; rw [swp_i]; exact hp i c h1 h3 hc hch
      · by_cases ed2 : d = c
        · omega
        · rw [swp_ne _ (by omega) (by omega)]; exact h i d h1 ei h3 h4
  · intro p d h1 h2 h3 h4
    have e : p = x := by omega
    subst e
    rw [swp_i, swp_ne _ (by omega) (by omega)]
    exact h c d (by omega) (by omega) h3 h4
theorem Hp.top {g : Nat → Int} {fst hi : Nat} (h : Hp g fst 0 hi) : ∀ m, m < hi → g (fst + m) ≤ g fst := by
  intro m
  induction m using Nat.strongRecOn with
  | _ m ih =>
    intro hm
    by_cases e : m = 0
    · subst e; exact Int.le_refl _
    · have h1 := h ((m - 1) / 2) m (Nat.zero_le _) (by omega) hm
      have h2 := ih ((m - 1) / 2) (by omega) (by omega)
      omega
end Go.Proofs.Ytnijpeeehnnipaa.AM

set_option linter.unusedVariables false
set_option linter.unusedSimpArgs false
set_option maxRecDepth 20000
namespace Go.Proofs.Ytnijpeeehnnipaa.AM
open Go Go.RowKit

def rwM (n : Nat) (f : Nat → Int) : List MO := [.row true 3 1 (rowF n f)]
attribute [go_sem] rwM
def RowS (n : Nat) (φ : AV → (Nat → Int) → Prop) : AV → List MO → Prop := fun r M' => ∃ g, M' = rwM n g ∧ φ r g
theorem swp_row (n : Nat) (g : Nat → Int) (i j : Nat) : ((rowF n g).set i (.int .i64 (g j))).set j (.int .i64 (g i)) = rowF n (swp g i j) := by
  rw [rowF_set, rowF_set]; rfl
theorem swp_get {n : Nat} (g : Nat → Int) {i j : Nat} (h : j < n) : ((rowF n g).set i (.int .i64 (g j)))[j]? = some (.int .i64 (g j)) := by
  rw [List.getElem?_set]
  by_cases e : i = j
  · subst e; rw [if_pos rfl, rowF_len, if_pos h]
  · rw [if_neg e, rowF_get _ h]
theorem insertion_spec (n a b : Nat) (f : Nat → Int) (hab : a ≤ b) (hb : b ≤ n) (hn : n ≤ 1000000) :
    RCalls Try.prog 82 [.msl 0 0 n n, .iv (.int .i64 a), .iv (.int .i64 b)] (rwM n f) (RowS n fun r g => r = .tup [] ∧ Sw a b f g ∧ Srt g a b) := by
  refine RCalls.of_aw Try.func82 rfl (by unfold Callable; kernel_rfl) (by kernel_rfl) (by simp [Try.ntmps82]) (by rintro _ _ ⟨_, rfl, _⟩; exact Nat.le_refl _) ?_; rw [Try.ntmps82, Try.results82]; (simp (disch := first | exact dq | fail) only [go_sem])
  (repeat' (first | refine Nx.go ?_ | fail) <;> try (simp (disch := first | exact dq | fail) only [go_sem]))
  all_goals (try omega)
  refine aw_loop (α := Nat × (Nat → Int)) (fun x => ⟨49, sl [(0, .msl 0 0 n n), (1, .iv (.int .i64 a)), (2, .iv (.int .i64 b)), (6, .iv (.int .i64 x.1))], rwM n x.2, 1⟩)
    (fun x => a + 1 ≤ x.1 ∧ (x.1 ≤ b ∨ x.1 = a + 1) ∧ Sw a b f x.2 ∧ Srt x.2 a x.1) (fun x => b + 1 - x.1) (a + 1, f) (wk_by [0] ?_) ⟨Nat.le_refl _, .inr rfl, .refl, Srt.small _ (Nat.le_refl _)⟩ ?_
  · (simp (disch := first | exact dq | fail) only [go_sem])
  rintro ⟨i, g⟩ ⟨hi0, hi, hsw, hst⟩
  dsimp only at hi0 hi hsw hst
  by_cases hlt : i < b
  · (repeat' first
  | ((first | refine Nx.go ?_ | fail) <;> try (simp (disch := first | exact dq | fail) only [go_sem]))
  | ((with_reducible refine Sp.go ?_ ?_) <;> intro h <;> (try (simp (disch := first | exact dq | fail) only [go_sem] at h)) <;> try (simp (disch := first | exact dq | fail) only [go_sem, h])) | fail)
    all_goals (try omega)
    refine aw_loop (α := Nat × (Nat → Int)) (fun x => ⟨49, sl [(0, .msl 0 0 n n), (1, .iv (.int .i64 a)), (2, .iv (.int .i64 b)), (6, .iv (.int .i64 i)), (7, .iv (.int .i64 x.1))], rwM n x.2, 1⟩)
      (fun x => a ≤ x.1 ∧ x.1 ≤ i ∧ Sw a b f x.2 ∧ InsI x.2 a i x.1) (fun x => x.1) (i, g) (wk_by [0] ?_) ⟨by dsimp only; omega, Nat.le_refl _, hsw, InsI.start hst⟩ ?_
    · (simp (disch := first | exact dq | fail) only [go_sem])
    rintro ⟨j, k⟩ ⟨hja, hji, hsw2, hins⟩
    dsimp only at hja hji hsw2 hins
    have hl := rowF_len n k
    by_cases hgt : a < j
    · have g1 := rowF_get k (show j < n by omega)
      have g2 := rowF_get k (show j - 1 < n by omega)
      have e1 : ((j : Int) - 1).toNat = j - 1 := by omega
      have hs := swp_row n k j (j - 1)
      have g3 := swp_get k (i := j) (show j - 1 < n by omega)
      by_cases hless : k j < k (j - 1)
      · (repeat' first
  | ((with_reducible first | refine Nx.go ?_ | refine rP ?_ | refine And.intro ?_ ?_ | fail) <;> try (simp (disch := first | exact dq | fail) only [go_sem, hl, g1, g2, g3, e1, hs]))
  | ((with_reducible refine Sp.go ?_ ?_) <;> intro h <;> (try (simp (disch := first | exact dq | fail) only [go_sem] at h)) <;> try (simp (disch := first | exact dq | fail) only [go_sem, h, hl, g1, g2, g3, e1, hs]))
  | ((first | with_reducible apply left_callf | with_reducible apply leftD_callf); (· with_reducible rfl); (· (simp (disch := first | exact dq | fail) only [go_sem, hl, g1, g2, g3, e1, hs]) <;> rfl); (· (first | exact Less_spec ..)); try (simp (disch := first | exact dq | fail) only [go_sem, hl, g1, g2, g3, e1, hs])) | fail)
        all_goals (try omega)
        refine ⟨(j - 1, swp k j (j - 1)), ⟨by dsimp only; omega, by dsimp only; omega, hsw2.swap j (j - 1) (by omega) (by omega), hins.step hji hgt hless⟩, wk_by [0] ?_, by dsimp only; omega⟩
        (simp (disch := first | exact dq | fail) only [go_sem])
        congr 2; omega
      · have hd := hins.done hji (.inr (by omega)) hja
        (repeat' first
  | ((with_reducible first | refine Nx.go ?_ | refine rP ?_ | refine And.intro ?_ ?_ | fail) <;> try (simp (disch := first | exact dq | fail) only [go_sem, hl, g1, g2, g3, e1, hs]))
  | ((with_reducible refine Sp.go ?_ ?_) <;> intro h <;> (try (simp (disch := first | exact dq | fail) only [go_sem] at h)) <;> try (simp (disch := first | exact dq | fail) only [go_sem, h, hl, g1, g2, g3, e1, hs]))
  | ((first | with_reducible apply left_callf | with_reducible apply leftD_callf); (· with_reducible rfl); (· (simp (disch := first | exact dq | fail) only [go_sem, hl, g1, g2, g3, e1, hs]) <;> rfl); (· (first | exact Less_spec ..)); try (simp (disch := first | exact dq | fail) only [go_sem, hl, g1, g2, g3, e1, hs])) | fail)
        all_goals (try omega)
        refine ⟨(i + 1, k), ⟨by dsimp only; omega, by dsimp only; omega, hsw2, hd⟩, wk_by [0] ?_, by dsimp only; omega⟩
        (simp (disch := first | exact dq | fail) only [go_sem])
    · have hd := hins.done hji (.inl (by omega)) hja
      (repeat' first
  | ((with_reducible first | refine Nx.go ?_ | refine rP ?_ | refine And.intro ?_ ?_ | fail) <;> try (simp (disch := first | exact dq | fail) only [go_sem, hl]))
  | ((with_reducible refine Sp.go ?_ ?_) <;> intro h <;> (try (simp (disch := first | exact dq | fail) only [go_sem] at h)) <;> try (simp (disch := first | exact dq | fail) only [go_sem, h, hl]))
  | ((first | with_reducible apply left_callf | with_reducible apply leftD_callf); (· with_reducible rfl); (· (simp (disch := first | exact dq | fail) only [go_sem, hl]) <;> rfl); (· (first | exact Less_spec ..)); try (simp (disch := first | exact dq | fail) only [go_sem, hl])) | fail)
      all_goals (try omega)
      refine ⟨(i + 1, k), ⟨by dsimp only; omega, by dsimp only; omega, hsw2, hd⟩, wk_by [0] ?_, by dsimp only; omega⟩
      (simp (disch := first | exact dq | fail) only [go_sem])
  · (repeat' first
  | ((first | refine Nx.go ?_ | fail) <;> try (simp (disch := first | exact dq | fail) only [go_sem]))
  | ((with_reducible refine Sp.go ?_ ?_) <;> intro h <;> (try (simp (disch := first | exact dq | fail) only [go_sem] at h)) <;> try (simp (disch := first | exact dq | fail) only [go_sem, h])) | fail)
    all_goals (try omega)
    refine ⟨_, _, ⟨g, rfl, rfl, hsw, fun p q h1 h2 h3 => hst p q h1 h2 (by omega)⟩, fin_k [0] ?_⟩
    (simp (disch := first | exact dq | fail) only [go_sem])
set_option maxHeartbeats 4000000 in
theorem siftDown_spec (n lo hi fst : Nat) (f : Nat → Int) (hb : fst + hi ≤ n) (hn : n ≤ 1000000) (hlo : lo ≤ n) (hp : Hp f fst (lo + 1) hi) :
    RCalls Try.prog 92 [.msl 0 0 n n, .iv (.int .i64 lo), .iv (.int .i64 hi), .iv (.int .i64 fst)] (rwM n f) (RowS n fun r g => r = .tup [] ∧ Sw fst (fst + hi) f g ∧ Hp g fst lo hi) := by
  refine RCalls.of_aw Try.func92 rfl (by unfold Callable; kernel_rfl) (by kernel_rfl) (by simp [Try.ntmps92]) (by rintro _ _ ⟨_, rfl, _⟩; exact Nat.le_refl _) ?_; rw [Try.ntmps92, Try.results92]; (simp (maxSteps := 1000000) (disch := first | exact dq | fail) only [go_sem])
  (repeat' (first | refine Nx.go ?_ | fail) <;> try (simp (maxSteps := 1000000) (disch := first | exact dq | fail) only [go_sem]))
  all_goals (try omega)
  refine aw_loop (α := Nat × (Nat → Int)) (fun x => ⟨76, sl [(0, .msl 0 0 n n), (2, .iv (.int .i64 hi)), (3, .iv (.int .i64 fst)), (8, .iv (.int .i64 x.1))], rwM n x.2, 1⟩)
    (fun x => lo ≤ x.1 ∧ x.1 ≤ n ∧ Sw fst (fst + hi) f x.2 ∧ HpX x.2 fst lo hi x.1 ∧ HpP x.2 fst lo hi x.1) (fun x => n - x.1) (lo, f) (wk_by [0] ?_) ⟨Nat.le_refl _, hlo, .refl, HpX.start hp, HpP.start _ _ _ _⟩ ?_
  · (simp (maxSteps := 1000000) (disch := first | exact dq | fail) only [go_sem])
  rintro ⟨x, g⟩ ⟨h1, h2, h3, h4, h5⟩
  dsimp only at h1 h2 h3 h4 h5
  have hl := rowF_len n g
  by_cases hc : 2 * x + 1 < hi
  · have c0 : ¬ (2 * (x : Int) + 1 ≥ hi) := by omega
    have hgx := rowF_get g (show fst + x < n by omega)
    have hg1 := rowF_get g (show fst + (2 * x + 1) < n by omega)
    have e0 : ((fst : Int) + x).toNat = fst + x := by omega
    have e1 : ((fst : Int) + (2 * x + 1)).toNat = fst + (2 * x + 1) := by omega
    have e2 : ((fst : Int) + (2 * x + 1) + 1).toNat = fst + (2 * x + 2) := by omega
    have e3 : ((fst : Int) + (2 * x + 1 + 1)).toNat = fst + (2 * x + 2) := by omega
    by_cases h2 : 2 * x + 2 < hi
    · have c1 : 2 * (x : Int) + 1 + 1 < hi := by omega
      have hg2 := rowF_get g (show fst + (2 * x + 2) < n by omega)
      by_cases hbig : g (fst + (2 * x + 1)) < g (fst + (2 * x + 2))
      · by_cases hless : g (fst + x) < g (fst + (2 * x + 2))
        · have hs := swp_row n g (fst + x) (fst + (2 * x + 2))
          have hr := swp_get g (i := fst + x) (show fst + (2 * x + 2) < n by omega)
          have hst := h4.step h5 h1 (.inr rfl) h2 (fun d hd hd2 => by rcases hd with rfl | rfl <;> omega) hless
          (repeat' first
  | ((with_reducible first | refine Nx.go ?_ | refine rP ?_ | refine And.intro ?_ ?_ | fail) <;> try (simp (maxSteps := 1000000) (disch := first | exact dq | fail) only [go_sem, hl, hgx, hg1, hg2, e0, e1, e2, e3, hs, hr, c0, c1, hbig, hless, decide_true, decide_false]))
  | ((with_reducible refine Sp.go ?_ ?_) <;> intro h <;> (try (simp (maxSteps := 1000000) (disch := first | exact dq | fail) only [go_sem] at h)) <;> try (simp (maxSteps := 1000000) (disch := first | exact dq | fail) only [go_sem, h, hl, hgx, hg1, hg2, e0, e1, e2, e3, hs, hr, c0, c1, hbig, hless, decide_true, decide_false]))
  | ((first | with_reducible apply left_callf | with_reducible apply leftD_callf); (· with_reducible rfl); (· (simp (maxSteps := 1000000) (disch := first | exact dq | fail) only [go_sem, hl, hgx, hg1, hg2, e0, e1, e2, e3, hs, hr, c0, c1, hbig, hless, decide_true, decide_false]) <;> rfl); (· (first | exact Less_spec ..)); try (simp (maxSteps := 1000000) (disch := first | exact dq | fail) only [go_sem, hl, hgx, hg1, hg2, e0, e1, e2, e3, hs, hr, c0, c1, hbig, hless, decide_true, decide_false])) | fail)
          all_goals (try omega)
          refine ⟨(2 * x + 2, swp g (fst + x) (fst + (2 * x + 2))), ⟨by dsimp only; omega, by dsimp only; omega, h3.swap _ _ (by omega) (by omega), hst.1, hst.2⟩, wk_by [0] ?_, by dsimp only; omega⟩
          (simp (maxSteps := 1000000) (disch := first | exact dq | fail) only [go_sem])
          congr 2
        · have hd := h4.done (fun c hc2 hc3 => by rcases hc2 with rfl | rfl <;> omega)
          (repeat' first
  | ((with_reducible first | refine Nx.go ?_ | refine rP ?_ | refine And.intro ?_ ?_ | fail) <;> try (simp (maxSteps := 1000000) (disch := first | exact dq | fail) only [go_sem, hl, hgx, hg1, hg2, e0, e1, e2, e3, c0, c1, hbig, hless, decide_true, decide_false]))
  | ((with_reducible refine Sp.go ?_ ?_) <;> intro h <;> (try (simp (maxSteps := 1000000) (disch := first | exact dq | fail) only [go_sem] at h)) <;> try (simp (maxSteps := 1000000) (disch := first | exact dq | fail) only [go_sem, h, hl, hgx, hg1, hg2, e0, e1, e2, e3, c0, c1, hbig, hless, decide_true, decide_false]))
  | ((first | with_reducible apply left_callf | with_reducible apply leftD_callf); (· with_reducible rfl); (· (simp (maxSteps := 1000000) (disch := first | exact dq | fail) only [go_sem, hl, hgx, hg1, hg2, e0, e1, e2, e3, c0, c1, hbig, hless, decide_true, decide_false]) <;> rfl); (· (first | exact Less_spec ..)); try (simp (maxSteps := 1000000) (disch := first | exact dq | fail) only [go_sem, hl, hgx, hg1, hg2, e0, e1, e2, e3, c0, c1, hbig, hless, decide_true, decide_false])) | fail)
          all_goals (try omega)
          refine ⟨_, _, ⟨g, rfl, rfl, h3, hd⟩, fin_k [0] ?_⟩
          (simp (maxSteps := 1000000) (disch := first | exact dq | fail) only [go_sem])
      · by_cases hless : g (fst + x) < g (fst + (2 * x + 1))
        · have hs := swp_row n g (fst + x) (fst + (2 * x + 1))
          have hr := swp_get g (i := fst + x) (show fst + (2 * x + 1) < n by omega)
          have hst := h4.step h5 h1 (.inl rfl) hc (fun d hd hd2 => by rcases hd with rfl | rfl <;> omega) hless
          (repeat' first
  | ((with_reducible first | refine Nx.go ?_ | refine rP ?_ | refine And.intro ?_ ?_ | fail) <;> try (simp (maxSteps := 1000000) (disch := first | exact dq | fail) only [go_sem, hl, hgx, hg1, hg2, e0, e1, e2, e3, hs, hr, c0, c1, hbig, hless, decide_true, decide_false]))
  | ((with_reducible refine Sp.go ?_ ?_) <;> intro h <;> (try (simp (maxSteps := 1000000) (disch := first | exact dq | fail) only [go_sem] at h)) <;> try (simp (maxSteps := 1000000) (disch := first | exact dq | fail) only [go_sem, h, hl, hgx, hg1, hg2, e0, e1, e2, e3, hs, hr, c0, c1, hbig, hless, decide_true, decide_false]))
  | ((first | with_reducible apply left_callf | with_reducible apply leftD_callf); (· with_reducible rfl); (· (simp (maxSteps := 1000000) (disch := first | exact dq | fail) only [go_sem, hl, hgx, hg1, hg2, e0, e1, e2, e3, hs, hr, c0, c1, hbig, hless, decide_true, decide_false]) <;> rfl); (· (first | exact Less_spec ..)); try (simp (maxSteps := 1000000) (disch := first | exact dq | fail) only [go_sem, hl, hgx, hg1, hg2, e0, e1, e2, e3, hs, hr, c0, c1, hbig, hless, decide_true, decide_false])) | fail)
          all_goals (try omega)
          refine ⟨(2 * x + 1, swp g (fst + x) (fst + (2 * x + 1))), ⟨by dsimp only; omega, by dsimp only; omega, h3.swap _ _ (by omega) (by omega), hst.1, hst.2⟩, wk_by [0] ?_, by dsimp only; omega⟩
          (simp (maxSteps := 1000000) (disch := first | exact dq | fail) only [go_sem])
          try (congr 2)
        · have hd := h4.done (fun c hc2 hc3 => by rcases hc2 with rfl | rfl <;> omega)
          (repeat' first
  | ((with_reducible first | refine Nx.go ?_ | refine rP ?_ | refine And.intro ?_ ?_ | fail) <;> try (simp (maxSteps := 1000000) (disch := first | exact dq | fail) only [go_sem, hl, hgx, hg1, hg2, e0, e1, e2, e3, c0, c1, hbig, hless, decide_true, decide_false]))
  | ((with_reducible refine Sp.go ?_ ?_) <;> intro h <;> (try (simp (maxSteps := 1000000) (disch := first | exact dq | fail) only [go_sem] at h)) <;> try (simp (maxSteps := 1000000) (disch := first | exact dq | fail) only [go_sem, h, hl, hgx, hg1, hg2, e0, e1, e2, e3, c0, c1, hbig, hless, decide_true, decide_false]))
  | ((first | with_reducible apply left_callf | with_reducible apply leftD_callf); (· with_reducible rfl); (· (simp (maxSteps := 1000000) (disch := first | exact dq | fail) only [go_sem, hl, hgx, hg1, hg2, e0, e1, e2, e3, c0, c1, hbig, hless, decide_true, decide_false]) <;> rfl); (· (first | exact Less_spec ..)); try (simp (maxSteps := 1000000) (disch := first | exact dq | fail) only [go_sem, hl, hgx, hg1, hg2, e0, e1, e2, e3, c0, c1, hbig, hless, decide_true, decide_false])) | fail)
          all_goals (try omega)
          refine ⟨_, _, ⟨g, rfl, rfl, h3, hd⟩, fin_k [0] ?_⟩
          (simp (maxSteps := 1000000) (disch := first | exact dq | fail) only [go_sem])
    · have c1 : ¬ (2 * (x : Int) + 1 + 1 < hi) := by omega
      by_cases hless : g (fst + x) < g (fst + (2 * x + 1))
      · have hs := swp_row n g (fst + x) (fst + (2 * x + 1))
        have hr := swp_get g (i := fst + x) (show fst + (2 * x + 1) < n by omega)
        have hst := h4.step h5 h1 (.inl rfl) hc (fun d hd hd2 => by rcases hd with rfl | rfl <;> omega) hless
        (repeat' first
  | ((with_reducible first | refine Nx.go ?_ | refine rP ?_ | refine And.intro ?_ ?_ | fail) <;> try (simp (maxSteps := 1000000) (disch := first | exact dq | fail) only [go_sem, hl, hgx, hg1, e0, e1, e2, e3, hs, hr, c0, c1, hless, decide_true, decide_false]))
  | ((with_reducible refine Sp.go ?_ ?_) <;> intro h <;> (try (simp (maxSteps := 1000000) (disch := first | exact dq | fail) only [go_sem] at h)) <;> try (simp (maxSteps := 1000000) (disch := first | exact dq | fail) only [go_sem, h, hl, hgx, hg1, e0, e1, e2, e3, hs, hr, c0, c1, hless, decide_true, decide_false]))
  | ((first | with_reducible apply left_callf | with_reducible apply leftD_callf); (· with_reducible rfl); (· (simp (maxSteps := 1000000) (disch := first | exact dq | fail) only [go_sem, hl, hgx, hg1, e0, e1, e2, e3, hs, hr, c0, c1, hless, decide_true, decide_false]) <;> rfl); (· (first | exact Less_spec ..)); try (simp (maxSteps := 1000000) (disch := first | exact dq | fail) only [go_sem, hl, hgx, hg1, e0, e1, e2, e3, hs, hr, c0, c1, hless, decide_true, decide_false])) | fail)
        all_goals (try omega)
        refine ⟨(2 * x + 1, swp g (fst + x) (fst + (2 * x + 1))), ⟨by dsimp only; omega, by dsimp only; omega, h3.swap _ _ (by omega) (by omega), hst.1, hst.2⟩, wk_by [0] ?_, by dsimp only; omega⟩
        (simp (maxSteps := 1000000) (disch := first | exact dq | fail) only [go_sem])
        try (congr 2)
      · have hd := h4.done (fun c hc2 hc3 => by rcases hc2 with rfl | rfl <;> omega)
        (repeat' first
  | ((with_reducible first | refine Nx.go ?_ | refine rP ?_ | refine And.intro ?_ ?_ | fail) <;> try (simp (maxSteps := 1000000) (disch := first | exact dq | fail) only [go_sem, hl, hgx, hg1, e0, e1, e2, e3, c0, c1, hless, decide_true, decide_false]))
  | ((with_reducible refine Sp.go ?_ ?_) <;> intro h <;> (try (simp (maxSteps := 1000000) (disch := first | exact dq | fail) only [go_sem] at h)) <;> try (simp (maxSteps := 1000000) (disch := first | exact dq | fail) only [go_sem, h, hl, hgx, hg1, e0, e1, e2, e3, c0, c1, hless, decide_true, decide_false]))
  | ((first | with_reducible apply left_callf | with_reducible apply leftD_callf); (· with_reducible rfl); (· (simp (maxSteps := 1000000) (disch := first | exact dq | fail) only [go_sem, hl, hgx, hg1, e0, e1, e2, e3, c0, c1, hless, decide_true, decide_false]) <;> rfl); (· (first | exact Less_spec ..)); try (simp (maxSteps := 1000000) (disch := first | exact dq | fail) only [go_sem, hl, hgx, hg1, e0, e1, e2, e3, c0, c1, hless, decide_true, decide_false])) | fail)
        all_goals (try omega)
        refine ⟨_, _, ⟨g, rfl, rfl, h3, hd⟩, fin_k [0] ?_⟩
        (simp (maxSteps := 1000000) (disch := first | exact dq | fail) only [go_sem])
  · have c0 : (2 * (x : Int) + 1 ≥ hi) := by omega
    have hd := h4.done (fun c hc2 hc3 => by omega)
    (repeat' first
  | ((first | refine Nx.go ?_ | fail) <;> try (simp (maxSteps := 1000000) (disch := first | exact dq | fail) only [go_sem, hl, c0, decide_true]))
  | ((with_reducible refine Sp.go ?_ ?_) <;> intro h <;> (try (simp (maxSteps := 1000000) (disch := first | exact dq | fail) only [go_sem] at h)) <;> try (simp (maxSteps := 1000000) (disch := first | exact dq | fail) only [go_sem, h, hl, c0, decide_true]))
  | ((first | with_reducible apply left_callf | with_reducible apply leftD_callf); (· with_reducible rfl); (· (simp (maxSteps := 1000000) (disch := first | exact dq | fail) only [go_sem, hl, c0, decide_true]) <;> rfl); (· (first | exact Less_spec ..)); try (simp (maxSteps := 1000000) (disch := first | exact dq | fail) only [go_sem, hl, c0, decide_true])) | fail)
    all_goals (try omega)
    refine ⟨_, _, ⟨g, rfl, rfl, h3, hd⟩, fin_k [0] ?_⟩
    (simp (maxSteps := 1000000) (disch := first | exact dq | fail) only [go_sem])
end Go.Proofs.Ytnijpeeehnnipaa.AM

set_option linter.unusedVariables false
set_option linter.unusedSimpArgs false
set_option maxRecDepth 20000
namespace Go.Proofs.Ytnijpeeehnnipaa.AM
open Go Go.RowKit

theorem heap_pop {g : Nat → Int} {a b k : Nat} (hh : Hp g a 0 (k + 1)) (hp : Prs g a b a (a + (k + 1))) (hk : a + (k + 1) ≤ b) :
    Sw a (a + (k + 1)) g (swp g a (a + k)) ∧ Hp (swp g a (a + k)) a 1 k ∧ Prs (swp g a (a + k)) a b a (a + k) := by
  have hsw : Sw a (a + (k + 1)) g (swp g a (a + k)) := Sw.refl.swap _ _ (by omega) (by omega)
  refine ⟨hsw, fun i c h1 h2 h3 => ?_, fun p q h1 h2 h3 h4 => ?_⟩
  · rw [swp_ne (m := a + c) _ (by omega) (by omega), swp_ne (m := a + i) _ (by omega) (by omega)]
    exact hh i c (by omega) h2 (by omega)
  · by_cases e : q = a + k
    · subst e
      rw [swp_j]
      obtain ⟨m, hm, e⟩ := hsw.src (m := p) (by omega)
      rw [e]
      have := hh.top (m - a) (by omega)
      rw [show a + (m - a) = m by omega] at this
      exact this
    · exact hp.sw hsw (Nat.le_refl _) hk p q h1 h2 h3 (by omega)
theorem heapSort_spec (n a b : Nat) (f : Nat → Int) (hab : a < b) (hb : b ≤ n) (hn : n ≤ 1000000) :
    RCalls Try.prog 83 [.msl 0 0 n n, .iv (.int .i64 a), .iv (.int .i64 b)] (rwM n f) (RowS n fun r g => r = .tup [] ∧ Sw a b f g ∧ Srt g a b) := by
  obtain ⟨s, rfl⟩ : ∃ s, b = a + s := ⟨b - a, by omega⟩
  have es : ((a + s : Nat) : Int) - a = s := by omega
  have es2 : (a : Int) + s - a = s := by omega
  have eq : ((s : Int) - 1) / 2 = (((s - 1) / 2 : Nat) : Int) := by omega
  refine RCalls.of_aw Try.func83 rfl (by unfold Callable; kernel_rfl) (by kernel_rfl) (by simp [Try.ntmps83]) (by rintro _ _ ⟨_, rfl, _⟩; exact Nat.le_refl _) ?_; rw [Try.ntmps83, Try.results83]; (simp (disch := first | exact dq | fail) only [go_sem])
  (repeat' (first | refine Nx.go ?_ | fail) <;> try (simp (disch := first | exact dq | fail) only [go_sem, es, es2, eq]))
  all_goals (try omega)
  refine aw_loop (α := Nat × (Nat → Int)) (fun x => ⟨56, sl [(0, .msl 0 0 n n), (6, .iv (.int .i64 a)), (7, .iv (.int .i64 0)), (8, .iv (.int .i64 s)), (9, .iv (.int .i64 ((x.1 : Int) - 1)))], rwM n x.2, 1⟩)
    (fun x => x.1 ≤ s ∧ Sw a (a + s) f x.2 ∧ Hp x.2 a x.1 s) (fun x => x.1) ((s - 1) / 2 + 1, f) (wk_by [0] ?_) ⟨by dsimp only; omega, .refl, fun i c h1 h2 h3 => by dsimp only at h1; omega⟩ ?_
  · (simp (disch := first | exact dq | fail) only [go_sem])
    congr 2; omega
  rintro ⟨k, g⟩ ⟨hk, hsw, hh⟩
  dsimp only at hk hsw hh
  by_cases hk0 : 0 < k
  · obtain ⟨k, rfl⟩ : ∃ j, k = j + 1 := ⟨k - 1, by omega⟩
    have ek : ((k + 1 : Nat) : Int) - 1 = k := by omega
    have ek2 : (k : Int) + 1 - 1 = k := by omega
    (repeat' first
  | ((first | refine Nx.go ?_ | fail) <;> try (simp (disch := first | exact dq | fail) only [go_sem, ek, ek2]))
  | ((with_reducible refine Sp.go ?_ ?_) <;> intro h <;> (try (simp (disch := first | exact dq | fail) only [go_sem] at h)) <;> try (simp (disch := first | exact dq | fail) only [go_sem, h, ek, ek2])) | fail)
    all_goals (try omega)
    ((with_reducible refine left_callRs [0] (siftDown_spec n k s a g hb hn (by omega) hh) ?_ ?_); (· (simp (disch := first | exact dq | fail) only [go_sem])))
    rintro _ _ ⟨g', rfl, rfl, hsw', hh'⟩
    (simp (disch := first | exact dq | fail) only [go_sem])
    (repeat' (first | refine Nx.go ?_ | fail) <;> try (simp (disch := first | exact dq | fail) only [go_sem]))
    all_goals (try omega)
    refine ⟨(k, g'), ⟨by dsimp only; omega, hsw.trans hsw', hh'⟩, wk_by [0] ?_, by dsimp only; omega⟩
    (simp (disch := first | exact dq | fail) only [go_sem])
  · have : k = 0 := by omega
    subst this
    (repeat' first
  | ((first | refine Nx.go ?_ | fail) <;> try (simp (disch := first | exact dq | fail) only [go_sem]))
  | ((with_reducible refine Sp.go ?_ ?_) <;> intro h <;> (try (simp (disch := first | exact dq | fail) only [go_sem] at h)) <;> try (simp (disch := first | exact dq | fail) only [go_sem, h])) | fail)
    all_goals (try omega)
    refine aw_loop (α := Nat × (Nat → Int)) (fun x => ⟨56, sl [(0, .msl 0 0 n n), (6, .iv (.int .i64 a)), (7, .iv (.int .i64 0)), (8, .iv (.int .i64 s)), (10, .iv (.int .i64 ((x.1 : Int) - 1)))], rwM n x.2, 1⟩)
      (fun x => x.1 ≤ s ∧ Sw a (a + s) f x.2 ∧ Hp x.2 a 0 x.1 ∧ Prs x.2 a (a + s) a (a + x.1)) (fun x => x.1) (s, g) (wk_by [0] ?_) ⟨Nat.le_refl _, hsw, hh, Prs.start _ _ _⟩ ?_
    · (simp (disch := first | exact dq | fail) only [go_sem])
    rintro ⟨k, g⟩ ⟨hk, hsw, hh, hp⟩
    dsimp only at hk hsw hh hp
    by_cases hk0 : 0 < k
    · obtain ⟨k, rfl⟩ : ∃ j, k = j + 1 := ⟨k - 1, by omega⟩
      have ek : ((k + 1 : Nat) : Int) - 1 = k := by omega
      have ek2 : (k : Int) + 1 - 1 = k := by omega
      have eak : ((a : Int) + k).toNat = a + k := by omega
      obtain ⟨h1, h2, h3⟩ := heap_pop hh hp (by omega)
      have hl := rowF_len n g
      have g1 := rowF_get g (show a < n by omega)
      have g2 := rowF_get g (show a + k < n by omega)
      have hs := swp_row n g a (a + k)
      have hr := swp_get g (i := a) (show a + k < n by omega)
      (repeat' first
  | ((with_reducible first | refine Nx.go ?_ | refine rP ?_ | refine And.intro ?_ ?_ | fail) <;> try (simp (disch := first | exact dq | fail) only [go_sem, ek, ek2, eak, hl, g1, g2, hs, hr]))
  | ((with_reducible refine Sp.go ?_ ?_) <;> intro h <;> (try (simp (disch := first | exact dq | fail) only [go_sem] at h)) <;> try (simp (disch := first | exact dq | fail) only [go_sem, h, ek, ek2, eak, hl, g1, g2, hs, hr])) | fail)
      all_goals (try omega)
      ((with_reducible refine left_callRs [0] (siftDown_spec n 0 k a (swp g a (a + k)) (by omega) hn (by omega) h2) ?_ ?_); (· (simp (disch := first | exact dq | fail) only [go_sem])))
      rintro _ _ ⟨g', rfl, rfl, hsw', hh'⟩
      (simp (disch := first | exact dq | fail) only [go_sem])
      (repeat' (first | refine Nx.go ?_ | fail) <;> try (simp (disch := first | exact dq | fail) only [go_sem]))
      all_goals (try omega)
      refine ⟨(k, g'), ⟨by dsimp only; omega, (hsw.trans (h1.mono (Nat.le_refl _) (by omega))).trans (hsw'.mono (Nat.le_refl _) (by omega)), hh', h3.sw hsw' (Nat.le_refl _) (by omega)⟩, wk_by [0] ?_, by dsimp only; omega⟩
      (simp (disch := first | exact dq | fail) only [go_sem])
    · have : k = 0 := by omega
      subst this
      (repeat' first
  | ((with_reducible first | refine Nx.go ?_ | refine rP ?_ | refine And.intro ?_ ?_ | fail) <;> try (simp (disch := first | exact dq | fail) only [go_sem]))
  | ((with_reducible refine Sp.go ?_ ?_) <;> intro h <;> (try (simp (disch := first | exact dq | fail) only [go_sem] at h)) <;> try (simp (disch := first | exact dq | fail) only [go_sem, h])) | fail)
      all_goals (try omega)
      refine ⟨_, _, ⟨g, rfl, rfl, hsw, hp.done (Srt.small _ (by omega))⟩, fin_k [0] ?_⟩
      (simp (disch := first | exact dq | fail) only [go_sem])
end Go.Proofs.Ytnijpeeehnnipaa.AM

set_option linter.unusedVariables false
set_option linter.unusedSimpArgs false
set_option maxRecDepth 20000
namespace Go.Proofs.Ytnijpeeehnnipaa.AM
open Go Go.RowKit

theorem reverse_spec (n a b : Nat) (f : Nat → Int) (hab : a ≤ b) (hb : b ≤ n) (hn : n ≤ 1000000) :
    RCalls Try.prog 86 [.msl 0 0 n n, .iv (.int .i64 a), .iv (.int .i64 b)] (rwM n f) (RowS n fun r g => r = .tup [] ∧ Sw a b f g) := by
  refine RCalls.of_aw Try.func86 rfl (by unfold Callable; kernel_rfl) (by kernel_rfl) (by simp [Try.ntmps86]) (by rintro _ _ ⟨_, rfl, _⟩; exact Nat.le_refl _) ?_; rw [Try.ntmps86, Try.results86]; (simp (disch := first | exact dq | fail) only [go_sem])
  (repeat' (first | refine Nx.go ?_ | fail) <;> try (simp (disch := first | exact dq | fail) only [go_sem]))
  all_goals (try omega)
  refine aw_loop (α := Nat × Nat × (Nat → Int)) (fun x => ⟨32, sl [(0, .msl 0 0 n n), (6, .iv (.int .i64 x.1)), (7, .iv (.int .i64 ((x.2.1 : Int) - 1)))], rwM n x.2.2, 1⟩)
    (fun x => a ≤ x.1 ∧ x.1 ≤ b ∧ x.2.1 ≤ b ∧ Sw a b f x.2.2) (fun x => x.2.1) (a, b, f) (wk_by [0] ?_) ⟨Nat.le_refl _, hab, Nat.le_refl _, .refl⟩ ?_
  · (simp (disch := first | exact dq | fail) only [go_sem])
  rintro ⟨i, j, g⟩ ⟨h1, h1', h2, hsw⟩
  dsimp only at h1 h1' h2 hsw
  have hl := rowF_len n g
  by_cases hlt : i + 1 < j
  · obtain ⟨j, rfl⟩ : ∃ k, j = k + 1 := ⟨j - 1, by omega⟩
    have ej : ((j + 1 : Nat) : Int) - 1 = j := by omega
    have ej2 : (j : Int) + 1 - 1 = j := by omega
    have g1 := rowF_get g (show i < n by omega)
    have g2 := rowF_get g (show j < n by omega)
    have hs := swp_row n g i j
    have hr := swp_get g (i := i) (show j < n by omega)
    (repeat' first
  | ((with_reducible first | refine Nx.go ?_ | refine rP ?_ | refine And.intro ?_ ?_ | fail) <;> try (simp (disch := first | exact dq | fail) only [go_sem, ej, ej2, hl, g1, g2, hs, hr]))
  | ((with_reducible refine Sp.go ?_ ?_) <;> intro h <;> (try (simp (disch := first | exact dq | fail) only [go_sem] at h)) <;> try (simp (disch := first | exact dq | fail) only [go_sem, h, ej, ej2, hl, g1, g2, hs, hr])) | fail)
    all_goals (try omega)
    refine ⟨(i + 1, j, swp g i j), ⟨by dsimp only; omega, by dsimp only; omega, by dsimp only; omega, hsw.swap i j (by omega) (by omega)⟩, wk_by [0] ?_, by dsimp only; omega⟩
    (simp (disch := first | exact dq | fail) only [go_sem])
  · have hc : ¬ ((i : Int) < (j : Int) - 1) := by omega
    (repeat' (first | refine Nx.go ?_ | fail) <;> try (simp (disch := first | exact dq | fail) only [go_sem, hc, decide_false]))
    all_goals (try omega)
    refine ⟨_, _, ⟨g, rfl, rfl, hsw⟩, fin_k [0] ?_⟩
    (simp (disch := first | exact dq | fail) only [go_sem])
def xsM (y : Int) : List MO := [.var 126 [.iv (.int .u64 y)]]
attribute [go_sem] xsM
theorem wrapU_range (z : Int) : 0 ≤ IntKind.u64.wrap z ∧ IntKind.u64.wrap z < 18446744073709551616 := by
  have h : IntKind.u64.wrap z = z % 18446744073709551616 := rfl
  rw [h]
  exact ⟨Int.emod_nonneg _ (by decide), Int.emod_lt_of_pos _ (by decide)⟩
def xsA (y : Int) : Int := bitI .xor .u64 y (IntKind.u64.wrap (y * 2 ^ min 13 64))
def xsB (y : Int) : Int := bitI .xor .u64 (xsA y) ((xsA y).fdiv (2 ^ min 7 64))
def xsN (y : Int) : Int := bitI .xor .u64 (xsB y) (IntKind.u64.wrap (xsB y * 2 ^ min 17 64))
theorem next_spec (y : Int) : RCalls Try.prog 94 [.mp 0 0] (xsM y) (fun r M' => ∃ z : Int, M' = xsM z ∧ r = .iv (.int .u64 z) ∧ 0 ≤ z ∧ z < 18446744073709551616) := by
  refine RCalls.of_aw Try.func94 rfl (by unfold Callable; kernel_rfl) (by kernel_rfl) (by simp [Try.ntmps94]) (by rintro _ _ ⟨_, rfl, _⟩; exact Nat.le_refl _) ?_; rw [Try.ntmps94, Try.results94]; (simp (disch := first | exact dq | fail) only [go_sem])
  (repeat' (with_reducible first | refine Nx.go ?_ | refine rP ?_ | fail) <;> try (simp (disch := first | exact dq | fail) only [go_sem]))
  refine ⟨.iv (.int .u64 (xsN y)), xsM (xsN y), ⟨xsN y, rfl, rfl, wrapU_range _⟩, fin_k [0] ?_⟩
  (simp (disch := first | exact dq | fail) only [go_sem])
  exact ⟨rfl, rfl⟩
theorem pow2_spec (s : Nat) (hs : s ≤ 1000000) : PCalls Try.prog 93 [.int .i64 s] (.int .u64 ((2 ^ Lib.bitLen s : Nat) : Int)) := by
  have h20 : Lib.bitLen s ≤ 20 := (bitLen_fits s (by omega) (by decide)).2 (by omega)
  have hp := Nat.pow_le_pow_right (n := 2) (by decide) h20
  refine PCalls.of_aw Try.func93 rfl (by unfold Callable; kernel_rfl) (by kernel_rfl) (by simp [Try.ntmps93]) ?_; rw [Try.ntmps93, Try.results93]; (simp (disch := first | exact dq | fail) only [go_sem])
  (repeat' (first | refine Nx.go ?_ | fail) <;> try (simp (disch := first | exact dq | fail) only [go_sem]))
  ((with_reducible first | apply left_callf | apply leftD_callf | apply leftF_callf); (· with_reducible rfl); (· (simp (disch := first | exact dq | fail) only [go_sem]) <;> rfl); (· exact Len_spec64 s (by omega)); try (simp (disch := first | exact dq | fail) only [go_sem]))
  (repeat' (with_reducible first | refine Nx.go ?_ | refine And.intro ?_ ?_ | fail) <;> try (simp (disch := first | exact dq | fail) only [go_sem]))
  all_goals (try omega)
  rw [Nat.min_eq_left (by omega), Int.one_mul, show (2 : Int) ^ Lib.bitLen s = ((2 ^ Lib.bitLen s : Nat) : Int) from by simp]
  generalize 2 ^ Lib.bitLen s = q at *
  rw [wrapU ⟨by omega, by omega⟩]
theorem break_spec (n a b : Nat) (f : Nat → Int) (hab : a ≤ b) (hb : b ≤ n) (hn : n ≤ 1000000) :
    RCalls Try.prog 84 [.msl 0 0 n n, .iv (.int .i64 a), .iv (.int .i64 b)] (rwM n f) (RowS n fun r g => r = .tup [] ∧ Sw a b f g) := by
  obtain ⟨s, rfl⟩ : ∃ s, b = a + s := ⟨b - a, by omega⟩
  have es2 : (a : Int) + s - a = s := by omega
  have h20 : Lib.bitLen s ≤ 20 := (bitLen_fits s (by omega) (by decide)).2 (by omega)
  have hp := Nat.pow_le_pow_right (n := 2) (by decide) h20
  have hP := pow2_spec s (by omega)
  have hm := fun (z : Nat) (hz : z < 18446744073709551616) => show bitI .and .u64 (z : Int) (((2 ^ Lib.bitLen s : Nat) : Int) - 1) = ((z % 2 ^ Lib.bitLen s : Nat) : Int) from by
    have h0 := Nat.two_pow_pos (Lib.bitLen s)
    have := bitand64 z (2 ^ Lib.bitLen s - 1) hz (by omega)
    rw [show (((2 ^ Lib.bitLen s - 1 : Nat)) : Int) = ((2 ^ Lib.bitLen s : Nat) : Int) - 1 by omega] at this
    rw [this, Nat.and_two_pow_sub_one_eq_mod]
  have hm2 : s ≠ 0 → 2 ^ Lib.bitLen s ≤ 2 * s := by
    intro h0
    by_cases hz : Lib.bitLen s = 0
    · rw [hz]; omega
    · obtain ⟨w, hw⟩ : ∃ w, Lib.bitLen s = w + 1 := ⟨Lib.bitLen s - 1, by omega⟩
      have h1 : ¬ s < 2 ^ w := fun h => by
        have := (bitLen_fits s (by omega) (w := w) (by omega)).2 h
        omega
      rw [hw, Nat.pow_succ]; omega
  have hm3 := Nat.two_pow_pos (Lib.bitLen s)
  generalize 2 ^ Lib.bitLen s = m at *
  refine RCalls.of_aw Try.func84 rfl (by unfold Callable; kernel_rfl) (by kernel_rfl) (by simp [Try.ntmps84]) (by rintro _ _ ⟨_, rfl, _⟩; exact Nat.le_refl _) ?_; rw [Try.ntmps84, Try.results84]; (simp (disch := first | exact dq | fail) only [go_sem])
  (repeat' first
  | ((first | refine Nx.go ?_ | fail) <;> try (simp (disch := first | exact dq | fail) only [go_sem, es2]))
  | ((with_reducible refine Sp.go ?_ ?_) <;> intro h <;> (try (simp (disch := first | exact dq | fail) only [go_sem] at h)) <;> try (simp (disch := first | exact dq | fail) only [go_sem, h, es2])) | fail)
  all_goals (try omega)
  · ((with_reducible first | apply left_callf | apply leftD_callf | apply leftF_callf); (· with_reducible rfl); (· (simp (disch := first | exact dq | fail) only [go_sem]) <;> rfl); (· exact hP); try (simp (disch := first | exact dq | fail) only [go_sem]))
    (repeat' (first | refine Nx.go ?_ | fail) <;> try (simp (disch := first | exact dq | fail) only [go_sem]))
    all_goals (try omega)
    refine aw_loop (α := Nat × Nat × (Nat → Int)) (fun x => ⟨65, sl [(0, .msl 0 0 n n), (1, .iv (.int .i64 a)), (6, .iv (.int .i64 s)), (7, .mp 1 0), (8, .iv (.int .u64 m)), (9, .iv (.int .i64 x.1))], rwM n x.2.2 ++ xsM x.2.1, 1⟩)
      (fun x => a + s / 4 * 2 - 1 ≤ x.1 ∧ x.1 ≤ a + s / 4 * 2 + 2 ∧ Sw a (a + s) f x.2.2) (fun x => a + s / 4 * 2 + 2 - x.1) (a + s / 4 * 2 - 1, s, f) (wk_by [0, 1] ?_) ⟨Nat.le_refl _, by dsimp only; omega, .refl⟩ ?_
    · (simp (disch := first | exact dq | fail) only [go_sem])
      congr 2; omega
    rintro ⟨x, y, g⟩ ⟨h1, h2, hsw⟩
    dsimp only at h1 h2 hsw
    have hl := rowF_len n g
    (repeat' first
  | ((first | refine Nx.go ?_ | fail) <;> try (simp (disch := first | exact dq | fail) only [go_sem]))
  | ((with_reducible refine Sp.go ?_ ?_) <;> intro h <;> (try (simp (disch := first | exact dq | fail) only [go_sem] at h)) <;> try (simp (disch := first | exact dq | fail) only [go_sem, h])) | fail)
    all_goals (try omega)
    · ((with_reducible refine left_callRs [1] (next_spec y) ?_ ?_); (· (simp (disch := first | exact dq | fail) only [go_sem])))
      rintro _ _ ⟨z, rfl, rfl, hz1, hz2⟩
      obtain ⟨z, rfl⟩ : ∃ k : Nat, z = k := ⟨z.toNat, by omega⟩
      have hmz := hm z (by omega)
      have hmod := Nat.mod_lt z hm3
      have gx := rowF_get g (show x < n by omega)
      generalize z % m = o at *
      by_cases ho : o < s
      · have c1 : ¬ ((o : Int) ≥ s) := by omega
        have eo : ((a : Int) + o).toNat = a + o := by omega
        have g1 := rowF_get g (show a + o < n by omega)
        have hs := swp_row n g x (a + o)
        have hr := swp_get g (i := x) (show a + o < n by omega)
        (simp (disch := first | exact dq | fail) only [go_sem, hmz])
        (repeat' (with_reducible first | refine Nx.go ?_ | refine rP ?_ | refine And.intro ?_ ?_ | fail) <;> try (simp (disch := first | exact dq | fail) only [go_sem, hmz, c1, decide_false, eo, hl, gx, g1, hs, hr]))
        all_goals (try omega)
        refine ⟨(x + 1, z, swp g x (a + o)), ⟨by dsimp only; omega, by dsimp only; omega, hsw.swap _ _ (by omega) (by omega)⟩, wk_by [0, 1] ?_, by dsimp only; omega⟩
        (simp (disch := first | exact dq | fail) only [go_sem])
      · have c1 : ((o : Int) ≥ s) := by omega
        have eo : ((a : Int) + ((o : Int) - s)).toNat = a + (o - s) := by omega
        have g1 := rowF_get g (show a + (o - s) < n by omega)
        have hs := swp_row n g x (a + (o - s))
        have hr := swp_get g (i := x) (show a + (o - s) < n by omega)
        (simp (disch := first | exact dq | fail) only [go_sem, hmz])
        (repeat' (with_reducible first | refine Nx.go ?_ | refine rP ?_ | refine And.intro ?_ ?_ | fail) <;> try (simp (disch := first | exact dq | fail) only [go_sem, hmz, c1, decide_true, eo, hl, gx, g1, hs, hr]))
        all_goals (try omega)
        refine ⟨(x + 1, z, swp g x (a + (o - s))), ⟨by dsimp only; omega, by dsimp only; omega, hsw.swap _ _ (by omega) (by omega)⟩, wk_by [0, 1] ?_, by dsimp only; omega⟩
        (simp (disch := first | exact dq | fail) only [go_sem])
    · refine ⟨_, _, ⟨g, rfl, rfl, hsw⟩, fin_k [0] ?_⟩
      (simp (disch := first | exact dq | fail) only [go_sem])
  · refine ⟨_, _, ⟨f, rfl, rfl, .refl⟩, fin_k [0] ?_⟩
    (simp (disch := first | exact dq | fail) only [go_sem])
end Go.Proofs.Ytnijpeeehnnipaa.AM

set_option linter.unusedVariables false
set_option linter.unusedSimpArgs false
set_option maxRecDepth 20000
namespace Go.Proofs.Ytnijpeeehnnipaa.AM
open Go Go.RowKit

def swM (c : Nat) : List MO := [.var 3 [.iv (.int .i64 c)]]
attribute [go_sem] swM
theorem order2_spec (n a b c : Nat) (f : Nat → Int) (ha : a < n) (hb : b < n) (hc : c ≤ 100) (hn : n ≤ 1000000) :
    RCalls Try.prog 97 [.msl 0 0 n n, .iv (.int .i64 a), .iv (.int .i64 b), .mp 1 0] (rwM n f ++ swM c)
      (fun r M' => ∃ q : Nat × Nat × Nat, M' = rwM n f ++ swM q.2.2 ∧ r = .tup [.iv (.int .i64 q.1), .iv (.int .i64 q.2.1)] ∧ (q.1 = a ∧ q.2.1 = b ∨ q.1 = b ∧ q.2.1 = a) ∧ q.2.2 ≤ c + 1) := by
  have hl := rowF_len n f
  have g1 := rowF_get f ha
  have g2 := rowF_get f hb
  refine RCalls.of_aw Try.func97 rfl (by unfold Callable; kernel_rfl) (by kernel_rfl) (by simp [Try.ntmps97]) (by rintro _ _ ⟨_, rfl, _⟩; exact Nat.le_refl _) ?_; rw [Try.ntmps97, Try.results97]; (simp (disch := first | exact dq | fail) only [go_sem])
  (repeat' first
  | ((with_reducible first | refine Nx.go ?_ | refine rP ?_ | refine And.intro ?_ ?_ | fail) <;> try (simp (disch := first | exact dq | fail) only [go_sem, hl, g1, g2]))
  | ((with_reducible refine Sp.go ?_ ?_) <;> intro h <;> (try (simp (disch := first | exact dq | fail) only [go_sem] at h)) <;> try (simp (disch := first | exact dq | fail) only [go_sem, h, hl, g1, g2]))
  | ((first | with_reducible apply left_callf | with_reducible apply leftD_callf); (· with_reducible rfl); (· (simp (disch := first | exact dq | fail) only [go_sem, hl, g1, g2]) <;> rfl); (· (first | exact Less_spec ..)); try (simp (disch := first | exact dq | fail) only [go_sem, hl, g1, g2])) | fail)
  all_goals (try omega)
  · refine ⟨_, _, ⟨(b, a, c + 1), rfl, rfl, .inr ⟨rfl, rfl⟩, Nat.le_refl _⟩, fin_k [0, 1] ?_⟩
    (simp (disch := first | exact dq | fail) only [go_sem])
  · refine ⟨_, _, ⟨(a, b, c), rfl, rfl, .inl ⟨rfl, rfl⟩, by dsimp only; omega⟩, fin_k [0, 1] ?_⟩
    (simp (disch := first | exact dq | fail) only [go_sem])
theorem median_spec (n a b d c : Nat) (f : Nat → Int) (ha : a < n) (hb : b < n) (hd : d < n) (hc : c ≤ 90) (hn : n ≤ 1000000) :
    RCalls Try.prog 96 [.msl 0 0 n n, .iv (.int .i64 a), .iv (.int .i64 b), .iv (.int .i64 d), .mp 1 0] (rwM n f ++ swM c)
      (fun r M' => ∃ q : Nat × Nat, M' = rwM n f ++ swM q.2 ∧ r = .iv (.int .i64 q.1) ∧ (q.1 = a ∨ q.1 = b ∨ q.1 = d) ∧ q.2 ≤ c + 3) := by
  refine RCalls.of_aw Try.func96 rfl (by unfold Callable; kernel_rfl) (by kernel_rfl) (by simp [Try.ntmps96]) (by rintro _ _ ⟨_, rfl, _⟩; exact Nat.le_refl _) ?_; rw [Try.ntmps96, Try.results96]; (simp (disch := first | exact dq | fail) only [go_sem])
  (repeat' (first | refine Nx.go ?_ | fail) <;> try (simp (disch := first | exact dq | fail) only [go_sem]))
  ((with_reducible refine left_callRs [0, 1] (order2_spec n a b c f ha hb (by omega) hn) ?_ ?_); (· (simp (disch := first | exact dq | fail) only [go_sem])))
  rintro _ _ ⟨⟨x, y, c1⟩, rfl, rfl, h1, h2⟩
  dsimp only at h1 h2
  (simp (disch := first | exact dq | fail) only [go_sem])
  (repeat' (first | refine Nx.go ?_ | fail) <;> try (simp (disch := first | exact dq | fail) only [go_sem]))
  ((with_reducible refine left_callRs [0, 1] (order2_spec n y d c1 f (by omega) hd (by omega) hn) ?_ ?_); (· (simp (disch := first | exact dq | fail) only [go_sem])))
  rintro _ _ ⟨⟨x1, y1, c2⟩, rfl, rfl, h3, h4⟩
  dsimp only at h3 h4
  (simp (disch := first | exact dq | fail) only [go_sem])
  (repeat' (first | refine Nx.go ?_ | fail) <;> try (simp (disch := first | exact dq | fail) only [go_sem]))
  ((with_reducible refine left_callRs [0, 1] (order2_spec n x x1 c2 f (by omega) (by omega) (by omega) hn) ?_ ?_); (· (simp (disch := first | exact dq | fail) only [go_sem])))
  rintro _ _ ⟨⟨x2, y2, c3⟩, rfl, rfl, h5, h6⟩
  dsimp only at h5 h6
  (simp (disch := first | exact dq | fail) only [go_sem])
  (repeat' (first | refine Nx.go ?_ | fail) <;> try (simp (disch := first | exact dq | fail) only [go_sem]))
  refine ⟨_, _, ⟨(y2, c3), rfl, rfl, by dsimp only; omega, by dsimp only; omega⟩, fin_k [0, 1] ?_⟩
  (simp (disch := first | exact dq | fail) only [go_sem])
theorem medianAdj_spec (n a c : Nat) (f : Nat → Int) (ha0 : 0 < a) (ha : a + 1 < n) (hc : c ≤ 90) (hn : n ≤ 1000000) :
    RCalls Try.prog 95 [.msl 0 0 n n, .iv (.int .i64 a), .mp 1 0] (rwM n f ++ swM c)
      (fun r M' => ∃ q : Nat × Nat, M' = rwM n f ++ swM q.2 ∧ r = .iv (.int .i64 q.1) ∧ (q.1 = a - 1 ∨ q.1 = a ∨ q.1 = a + 1) ∧ q.2 ≤ c + 3) := by
  obtain ⟨a, rfl⟩ : ∃ k, a = k + 1 := ⟨a - 1, by omega⟩
  have e1 : ((a + 1 : Nat) : Int) - 1 = a := by omega
  have e2 : (a : Int) + 1 - 1 = a := by omega
  have e3 : (a : Int) + 1 + 1 = (a : Int) + 2 := by omega
  refine RCalls.of_aw Try.func95 rfl (by unfold Callable; kernel_rfl) (by kernel_rfl) (by simp [Try.ntmps95]) (by rintro _ _ ⟨_, rfl, _⟩; exact Nat.le_refl _) ?_; rw [Try.ntmps95, Try.results95]; (simp (disch := first | exact dq | fail) only [go_sem])
  (repeat' (first | refine Nx.go ?_ | fail) <;> try (simp (disch := first | exact dq | fail) only [go_sem, e2, e3]))
  have hM := median_spec n a (a + 1) (a + 2) c f (by omega) (by omega) (by omega) hc hn
  ((with_reducible refine left_callRs [0, 1] (hM) ?_ ?_); (· (simp (disch := first | exact dq | fail) only [go_sem])))
  rintro _ _ ⟨⟨x, c1⟩, rfl, rfl, h1, h2⟩
  dsimp only at h1 h2
  (simp (disch := first | exact dq | fail) only [go_sem])
  (repeat' (first | refine Nx.go ?_ | fail) <;> try (simp (disch := first | exact dq | fail) only [go_sem]))
  refine ⟨_, _, ⟨(x, c1), rfl, rfl, by dsimp only; omega, by dsimp only; omega⟩, fin_k [0, 1] ?_⟩
  (simp (disch := first | exact dq | fail) only [go_sem])
theorem choose_spec (n a b : Nat) (f : Nat → Int) (hab : a + 12 < b) (hb : b ≤ n) (hn : n ≤ 1000000) :
    RCalls Try.prog 85 [.msl 0 0 n n, .iv (.int .i64 a), .iv (.int .i64 b)] (rwM n f)
      (fun r M' => ∃ q : Nat × Nat, M' = rwM n f ∧ r = .tup [.iv (.int .i64 q.1), .iv (.int .i64 q.2)] ∧ (a ≤ q.1 ∧ q.1 < b) ∧ q.2 ≤ 2) := by
  obtain ⟨s, rfl⟩ : ∃ s, b = a + s := ⟨b - a, by omega⟩
  have es2 : (a : Int) + s - a = s := by omega
  obtain ⟨i, hi⟩ : ∃ i : Nat, i = a + s / 4 := ⟨_, rfl⟩
  obtain ⟨j, hj⟩ : ∃ i : Nat, i = a + s / 4 * 2 := ⟨_, rfl⟩
  obtain ⟨k, hk⟩ : ∃ i : Nat, i = a + s / 4 * 3 := ⟨_, rfl⟩
  have ei : (a : Int) + (s : Int) / 4 * 1 = i := by omega
  have ei' : (a : Int) + (s : Int) / 4 = i := by omega
  have ej : (a : Int) + (s : Int) / 4 * 2 = j := by omega
  have ek : (a : Int) + (s : Int) / 4 * 3 = k := by omega
  have c8 : ((s : Int) ≥ 8) := by omega
  refine RCalls.of_aw Try.func85 rfl (by unfold Callable; kernel_rfl) (by kernel_rfl) (by simp [Try.ntmps85]) (by rintro _ _ ⟨_, rfl, _⟩; exact Nat.le_refl _) ?_; rw [Try.ntmps85, Try.results85]; (simp (disch := first | exact dq | fail) only [go_sem])
  (repeat' first
  | ((first | refine Nx.go ?_ | fail) <;> try (simp (disch := first | exact dq | fail) only [go_sem, es2, ei, ei', ej, ek, c8, decide_true]))
  | ((with_reducible refine Sp.go ?_ ?_) <;> intro h <;> (try (simp (disch := first | exact dq | fail) only [go_sem] at h)) <;> try (simp (disch := first | exact dq | fail) only [go_sem, h, es2, ei, ei', ej, ek, c8, decide_true])) | fail)
  all_goals (try omega)
  · ((with_reducible refine left_callRs [0, 1] (medianAdj_spec n i 0 f (by omega) (by omega) (by omega) hn) ?_ ?_); (· (simp (disch := first | exact dq | fail) only [go_sem])))
    rintro _ _ ⟨⟨i2, c1⟩, rfl, rfl, h1, h2⟩
    dsimp only at h1 h2
    (simp (disch := first | exact dq | fail) only [go_sem])
    (repeat' (first | refine Nx.go ?_ | fail) <;> try (simp (disch := first | exact dq | fail) only [go_sem]))
    ((with_reducible refine left_callRs [0, 1] (medianAdj_spec n j c1 f (by omega) (by omega) (by omega) hn) ?_ ?_); (· (simp (disch := first | exact dq | fail) only [go_sem])))
    rintro _ _ ⟨⟨j2, c2⟩, rfl, rfl, h3, h4⟩
    dsimp only at h3 h4
    (simp (disch := first | exact dq | fail) only [go_sem])
    (repeat' (first | refine Nx.go ?_ | fail) <;> try (simp (disch := first | exact dq | fail) only [go_sem]))
    ((with_reducible refine left_callRs [0, 1] (medianAdj_spec n k c2 f (by omega) (by omega) (by omega) hn) ?_ ?_); (· (simp (disch := first | exact dq | fail) only [go_sem])))
    rintro _ _ ⟨⟨k2, c3⟩, rfl, rfl, h5, h6⟩
    dsimp only at h5 h6
    (simp (disch := first | exact dq | fail) only [go_sem])
    (repeat' (first | refine Nx.go ?_ | fail) <;> try (simp (disch := first | exact dq | fail) only [go_sem]))
    ((with_reducible refine left_callRs [0, 1] (median_spec n i2 j2 k2 c3 f (by omega) (by omega) (by omega) (by omega) hn) ?_ ?_); (· (simp (disch := first | exact dq | fail) only [go_sem])))
    rintro _ _ ⟨⟨p, c4⟩, rfl, rfl, h7, h8⟩
    dsimp only at h7 h8
    (simp (disch := first | exact dq | fail) only [go_sem])
    (repeat' first
  | ((first | refine Nx.go ?_ | fail) <;> try (simp (disch := first | exact dq | fail) only [go_sem]))
  | ((with_reducible refine Sp.go ?_ ?_) <;> intro h <;> (try (simp (disch := first | exact dq | fail) only [go_sem] at h)) <;> try (simp (disch := first | exact dq | fail) only [go_sem, h])) | fail)
    · refine ⟨_, _, ⟨(p, 1), rfl, rfl, by dsimp only; omega, by dsimp only; omega⟩, fin_k [0] ?_⟩
      (simp (disch := first | exact dq | fail) only [go_sem])
    · refine ⟨_, _, ⟨(p, 2), rfl, rfl, by dsimp only; omega, by dsimp only; omega⟩, fin_k [0] ?_⟩
      (simp (disch := first | exact dq | fail) only [go_sem])
    · refine ⟨_, _, ⟨(p, 0), rfl, rfl, by dsimp only; omega, by dsimp only; omega⟩, fin_k [0] ?_⟩
      (simp (disch := first | exact dq | fail) only [go_sem])
  · ((with_reducible refine left_callRs [0, 1] (median_spec n i j k 0 f (by omega) (by omega) (by omega) (by omega) hn) ?_ ?_); (· (simp (disch := first | exact dq | fail) only [go_sem])))
    rintro _ _ ⟨⟨p, c4⟩, rfl, rfl, h7, h8⟩
    dsimp only at h7 h8
    (simp (disch := first | exact dq | fail) only [go_sem])
    (repeat' first
  | ((first | refine Nx.go ?_ | fail) <;> try (simp (disch := first | exact dq | fail) only [go_sem]))
  | ((with_reducible refine Sp.go ?_ ?_) <;> intro h <;> (try (simp (disch := first | exact dq | fail) only [go_sem] at h)) <;> try (simp (disch := first | exact dq | fail) only [go_sem, h])) | fail)
    · refine ⟨_, _, ⟨(p, 1), rfl, rfl, by dsimp only; omega, by dsimp only; omega⟩, fin_k [0] ?_⟩
      (simp (disch := first | exact dq | fail) only [go_sem])
    · refine ⟨_, _, ⟨(p, 2), rfl, rfl, by dsimp only; omega, by dsimp only; omega⟩, fin_k [0] ?_⟩
      (simp (disch := first | exact dq | fail) only [go_sem])
    · refine ⟨_, _, ⟨(p, 0), rfl, rfl, by dsimp only; omega, by dsimp only; omega⟩, fin_k [0] ?_⟩
      (simp (disch := first | exact dq | fail) only [go_sem])
end Go.Proofs.Ytnijpeeehnnipaa.AM
