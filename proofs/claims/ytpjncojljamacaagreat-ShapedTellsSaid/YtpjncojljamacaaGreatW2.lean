
/- slices.SortStableFunc of a row of numbers: insertion, rotation, merging. No condition but lengths that fit. -/
import Derived.Test.YtpjncojljamacaaGreatW1
set_option linter.unusedVariables false
set_option linter.unusedSimpArgs false
set_option maxRecDepth 20000
namespace Go.Proofs.YtpjncojljamacaaGreat.AM
open Go Go.RowKit

def stM (n : Nat) (f : Nat → Int) (T : TypeId) (c : IV) : List MO := [.row true 3 1 (rowF n f), .var T [.iv c]]
attribute [go_sem] stM
structure CmpF (g : Nat) (T : TypeId) (c : IV) (cf : Int → Int → Int) (v : Nat → Int) (K : Nat → Int) : Prop where
  call : ∀ i j, MCalls Tryz.prog g [.iv (.int .i64 (v i)), .iv (.int .i64 (v j)), .mp 0 0] [.var T [.iv c]] (.iv (.int .i64 (cf (v i) (v j)))) [.var T [.iv c]]
  key : ∀ i j, cf (v i) (v j) < 0 ↔ K i < K j
def StS (n : Nat) (v : Nat → Int) (T : TypeId) (c : IV) (φ : (Nat → Nat) → Prop) : AV → List MO → Prop := fun r M' => ∃ τ : Nat → Nat, M' = stM n (fun k => v (τ k)) T c ∧ r = .tup [] ∧ φ τ
theorem swp_comp {α β : Type} (e : α → β) (τ : Nat → α) (i j : Nat) : (fun k => e (swp τ i j k)) = swp (fun k => e (τ k)) i j := by
  funext k
  unfold swp
  split
  · rfl
  · split <;> rfl
section
variable {g : Nat} {T : TypeId} {c : IV} {cf : Int → Int → Int} {v : Nat → Int} {K : Nat → Int}
set_option maxHeartbeats 2000000 in
theorem insertionC_spec (hF : CmpF g T c cf v K) (n a b N : Nat) (σ : Nat → Nat) (hab : a ≤ b) (hb : b ≤ n) (hn : n ≤ 1000000) (hN : ∀ k, a ≤ k → k < b → σ k < N) (hup : ∀ p q, a ≤ p → p < q → q < b → σ p < σ q) :
    RCalls Tryz.prog 82 [.msl 0 0 n n, .iv (.int .i64 a), .iv (.int .i64 b), .fn g [.mp 1 0]] (stM n (fun k => v (σ k)) T c) (StS n v T c fun τ => Sw a b σ τ ∧ Srt (fun k => eK K N (τ k)) a b) := by
  refine RCalls.of_aw Tryz.func82 rfl (by unfold Callable; kernel_rfl) (by kernel_rfl) (by simp [Tryz.ntmps82]) (by rintro _ _ ⟨_, rfl, _⟩; exact Nat.le_refl _) ?_; rw [Tryz.ntmps82, Tryz.results82]; (simp (maxSteps := 1000000) (disch := first | exact dq | fail) only [go_sem])
  (repeat' first
  | ((with_reducible first | refine Nx.go ?_ | refine rP ?_ | refine rR ?_ | refine And.intro ?_ ?_ | fail) <;> try (simp (maxSteps := 1000000) (disch := first | exact dq | fail) only [go_sem]))
  | ((with_reducible refine Sp.go ?_ ?_) <;> intro h <;> (try (simp (maxSteps := 1000000) (disch := first | exact dq | fail) only [go_sem] at h)) <;> try (simp (maxSteps := 1000000) (disch := first | exact dq | fail) only [go_sem, h])) | fail)
  all_goals (try omega)
  refine aw_loop (α := Nat × (Nat → Nat)) (fun x => ⟨53, sl [(0, .msl 0 0 n n), (1, .iv (.int .i64 a)), (2, .iv (.int .i64 b)), (3, .fn g [.mp 1 0]), (8, .iv (.int .i64 x.1))], stM n (fun k => v (x.2 k)) T c, 2⟩)
    (fun x => a + 1 ≤ x.1 ∧ (x.1 ≤ b ∨ x.1 = a + 1) ∧ Sw a b σ x.2 ∧ Srt (fun k => eK K N (x.2 k)) a x.1 ∧ ∀ p q, a ≤ p → p < q → q < b → x.1 ≤ q → x.2 p < x.2 q) (fun x => b + 1 - x.1) (a + 1, σ) (wk_by [0, 1] ?_) ⟨Nat.le_refl _, .inr rfl, .refl, Srt.small _ (Nat.le_refl _), fun p q h1 h2 h3 _ => hup p q h1 h2 h3⟩ ?_
  · (simp (maxSteps := 1000000) (disch := first | exact dq | fail) only [go_sem])
  rintro ⟨i, τ⟩ ⟨hi0, hi, hsw, hst, hx⟩
  dsimp only at hi0 hi hsw hst hx
  by_cases hlt : i < b
  · (repeat' first
  | ((with_reducible first | refine Nx.go ?_ | refine rP ?_ | refine rR ?_ | refine And.intro ?_ ?_ | fail) <;> try (simp (maxSteps := 1000000) (disch := first | exact dq | fail) only [go_sem]))
  | ((with_reducible refine Sp.go ?_ ?_) <;> intro h <;> (try (simp (maxSteps := 1000000) (disch := first | exact dq | fail) only [go_sem] at h)) <;> try (simp (maxSteps := 1000000) (disch := first | exact dq | fail) only [go_sem, h])) | fail)
    all_goals (try omega)
    refine aw_loop (α := Nat × (Nat → Nat)) (fun x => ⟨53, sl [(0, .msl 0 0 n n), (1, .iv (.int .i64 a)), (2, .iv (.int .i64 b)), (3, .fn g [.mp 1 0]), (8, .iv (.int .i64 i)), (9, .iv (.int .i64 x.1))], stM n (fun k => v (x.2 k)) T c, 2⟩)
      (fun x => a ≤ x.1 ∧ x.1 ≤ i ∧ Sw a b σ x.2 ∧ InsI (fun k => eK K N (x.2 k)) a i x.1 ∧ (∀ p q, a ≤ p → p < q → q < b → i < q → x.2 p < x.2 q) ∧ ∀ k, a ≤ k → k ≤ i → k ≠ x.1 → x.2 k < x.2 x.1) (fun x => x.1) (i, τ) (wk_by [0, 1] ?_)
      ⟨by dsimp only; omega, Nat.le_refl _, hsw, InsI.start hst, fun p q h1 h2 h3 h4 => hx p q h1 h2 h3 (by omega), fun k h1 h2 h3 => hx k i h1 (by dsimp only at h3; omega) hlt (Nat.le_refl _)⟩ ?_
    · (simp (maxSteps := 1000000) (disch := first | exact dq | fail) only [go_sem])
    rintro ⟨j, κ⟩ ⟨hja, hji, hsw2, hins, hA, hB⟩
    dsimp only at hja hji hsw2 hins hA hB
    have hl := rowF_len n (fun k => v (κ k))
    by_cases hgt : a < j
    · have g1 := rowF_get (fun k => v (κ k)) (show j < n by omega)
      have g2 := rowF_get (fun k => v (κ k)) (show j - 1 < n by omega)
      have e1 : ((j : Int) - 1).toNat = j - 1 := by omega
      have hs := swp_row n (fun k => v (κ k)) j (j - 1)
      rw [← swp_comp v κ j (j - 1)] at hs
      have g3 := swp_get (fun k => v (κ k)) (i := j) (show j - 1 < n by omega)
      have hC := hF.call (κ j) (κ (j - 1))
      have hk := hF.key (κ j) (κ (j - 1))
      have hlt1 := hB (j - 1) (by omega) (by omega) (by omega)
      have hNj : κ j < N := hsw2.all (p := fun x => x < N) hN j (by omega) (by omega)
      have hNj1 : κ (j - 1) < N := hsw2.all (p := fun x => x < N) hN (j - 1) (by omega) (by omega)
      have hE := eK_lt (K := K) hNj hNj1
      have hc0 : (j : Int) > a := by omega
      obtain ⟨z, hz⟩ : ∃ z, cf (v (κ j)) (v (κ (j - 1))) = z := ⟨_, rfl⟩
      rw [hz] at hC hk
      by_cases hless : z < 0
      · have hEl : eK K N (κ j) < eK K N (κ (j - 1)) := hE.2 (.inl (hk.1 hless))
        (repeat' first
  | ((with_reducible first | refine Nx.go ?_ | refine rR ?_ | refine And.intro ?_ ?_ | fail) <;> try (simp (maxSteps := 1000000) (disch := first | exact dq | fail) only [go_sem, hl, g1, g2, g3, e1, hc0, decide_true]))
  | ((with_reducible refine Sp.go ?_ ?_) <;> intro h <;> (try (simp (maxSteps := 1000000) (disch := first | exact dq | fail) only [go_sem] at h)) <;> try (simp (maxSteps := 1000000) (disch := first | exact dq | fail) only [go_sem, h, hl, g1, g2, g3, e1, hc0, decide_true])) | fail)
        all_goals (try omega)
        ((first | with_reducible refine left_callMs [1] (hC) ?_ ?_ | with_reducible refine leftD_callMs [1] rfl (hC) ?_ ?_ | with_reducible refine leftD_callRs [1] (by decide) (hC) ?_ ?_); (· (simp (maxSteps := 1000000) (disch := first | exact dq | fail) only [go_sem])); try (simp (maxSteps := 1000000) (disch := first | exact dq | fail) only [go_sem]))
        (repeat' first
  | ((with_reducible first | refine Nx.go ?_ | refine rR ?_ | refine And.intro ?_ ?_ | fail) <;> try (simp (maxSteps := 1000000) (disch := first | exact dq | fail) only [go_sem, hl, g1, g2, g3, e1, hs, hless, decide_true]))
  | ((with_reducible refine Sp.go ?_ ?_) <;> intro h <;> (try (simp (maxSteps := 1000000) (disch := first | exact dq | fail) only [go_sem] at h)) <;> try (simp (maxSteps := 1000000) (disch := first | exact dq | fail) only [go_sem, h, hl, g1, g2, g3, e1, hs, hless, decide_true])) | fail)
        all_goals (try omega)
        refine ⟨(j - 1, swp κ j (j - 1)), ⟨by dsimp only; omega, by dsimp only; omega, hsw2.swap j (j - 1) (by omega) (by omega), ?_, fun p q h1 h2 h3 h4 => ?_, fun k h1 h2 h3 => ?_⟩, wk_by [0, 1] ?_, by dsimp only; omega⟩
        · dsimp only
          rw [swp_comp (eK K N)]
          exact hins.step hji hgt hEl
        · dsimp only
          rw [swp_ne _ (show q ≠ j by omega) (show q ≠ j - 1 by omega)]
          by_cases e2 : p = j
          · subst e2; rw [swp_i]; exact hA _ q (by omega) (by omega) h3 h4
          · by_cases e3 : p = j - 1
            · subst e3; rw [swp_j]; exact hA _ q (by omega) (by omega) h3 h4
            · rw [swp_ne _ e2 e3]; exact hA p q h1 h2 h3 h4
        · dsimp only at h3 ⊢
          rw [swp_j]
          by_cases e2 : k = j
          · subst e2; rw [swp_i]; exact hlt1
          · rw [swp_ne _ e2 h3]; exact hB k h1 h2 e2
        · (simp (maxSteps := 1000000) (disch := first | exact dq | fail) only [go_sem])
          congr 2; omega
      · have hEl : eK K N (κ (j - 1)) ≤ eK K N (κ j) := by
          have := fun hh => hless (hk.2 hh)
          omega
        have hd := hins.done hji (.inr hEl) hja
        (repeat' first
  | ((with_reducible first | refine Nx.go ?_ | refine rR ?_ | refine And.intro ?_ ?_ | fail) <;> try (simp (maxSteps := 1000000) (disch := first | exact dq | fail) only [go_sem, hl, g1, g2, g3, e1, hc0, decide_true]))
  | ((with_reducible refine Sp.go ?_ ?_) <;> intro h <;> (try (simp (maxSteps := 1000000) (disch := first | exact dq | fail) only [go_sem] at h)) <;> try (simp (maxSteps := 1000000) (disch := first | exact dq | fail) only [go_sem, h, hl, g1, g2, g3, e1, hc0, decide_true])) | fail)
        all_goals (try omega)
        ((first | with_reducible refine left_callMs [1] (hC) ?_ ?_ | with_reducible refine leftD_callMs [1] rfl (hC) ?_ ?_ | with_reducible refine leftD_callRs [1] (by decide) (hC) ?_ ?_); (· (simp (maxSteps := 1000000) (disch := first | exact dq | fail) only [go_sem])); try (simp (maxSteps := 1000000) (disch := first | exact dq | fail) only [go_sem]))
        (repeat' first
  | ((with_reducible first | refine Nx.go ?_ | refine rR ?_ | refine And.intro ?_ ?_ | fail) <;> try (simp (maxSteps := 1000000) (disch := first | exact dq | fail) only [go_sem, hless, decide_false]))
  | ((with_reducible refine Sp.go ?_ ?_) <;> intro h <;> (try (simp (maxSteps := 1000000) (disch := first | exact dq | fail) only [go_sem] at h)) <;> try (simp (maxSteps := 1000000) (disch := first | exact dq | fail) only [go_sem, h, hless, decide_false])) | fail)
        all_goals (try omega)
        refine ⟨(i + 1, κ), ⟨by dsimp only; omega, by dsimp only; omega, hsw2, hd, fun p q h1 h2 h3 h4 => hA p q h1 h2 h3 (by dsimp only at h4; omega)⟩, wk_by [0, 1] ?_, by dsimp only; omega⟩
        (simp (maxSteps := 1000000) (disch := first | exact dq | fail) only [go_sem])
    · have hd := hins.done hji (.inl (by omega)) hja
      have hc0 : ¬ ((j : Int) > a) := by omega
      (repeat' first
  | ((with_reducible first | refine Nx.go ?_ | refine rP ?_ | refine rR ?_ | refine And.intro ?_ ?_ | fail) <;> try (simp (maxSteps := 1000000) (disch := first | exact dq | fail) only [go_sem, hl, hc0, decide_false]))
  | ((with_reducible refine Sp.go ?_ ?_) <;> intro h <;> (try (simp (maxSteps := 1000000) (disch := first | exact dq | fail) only [go_sem] at h)) <;> try (simp (maxSteps := 1000000) (disch := first | exact dq | fail) only [go_sem, h, hl, hc0, decide_false])) | fail)
      all_goals (try omega)
      refine ⟨(i + 1, κ), ⟨by dsimp only; omega, by dsimp only; omega, hsw2, hd, fun p q h1 h2 h3 h4 => hA p q h1 h2 h3 (by dsimp only at h4; omega)⟩, wk_by [0, 1] ?_, by dsimp only; omega⟩
      (simp (maxSteps := 1000000) (disch := first | exact dq | fail) only [go_sem])
  · (repeat' first
  | ((with_reducible first | refine Nx.go ?_ | refine rP ?_ | refine rR ?_ | refine And.intro ?_ ?_ | fail) <;> try (simp (maxSteps := 1000000) (disch := first | exact dq | fail) only [go_sem]))
  | ((with_reducible refine Sp.go ?_ ?_) <;> intro h <;> (try (simp (maxSteps := 1000000) (disch := first | exact dq | fail) only [go_sem] at h)) <;> try (simp (maxSteps := 1000000) (disch := first | exact dq | fail) only [go_sem, h])) | fail)
    all_goals (try omega)
    refine ⟨_, _, ⟨τ, rfl, rfl, hsw, fun p q h1 h2 h3 => hst p q h1 h2 (by omega)⟩, fin_k [0, 1] ?_⟩
    (simp (maxSteps := 1000000) (disch := first | exact dq | fail) only [go_sem])
theorem swapRange_spec (n a b m : Nat) (σ : Nat → Nat) (hab : a + m ≤ b) (hb : b + m ≤ n) (hn : n ≤ 1000000) :
    RCalls Tryz.prog 117 [.msl 0 0 n n, .iv (.int .i64 a), .iv (.int .i64 b), .iv (.int .i64 m), .fn g [.mp 1 0]] (stM n (fun k => v (σ k)) T c) (StS n v T c fun τ => τ = swr σ a b m) := by
  refine RCalls.of_aw Tryz.func117 rfl (by unfold Callable; kernel_rfl) (by kernel_rfl) (by simp [Tryz.ntmps117]) (by rintro _ _ ⟨_, rfl, _⟩; exact Nat.le_refl _) ?_; rw [Tryz.ntmps117, Tryz.results117]; (simp (disch := first | exact dq | fail) only [go_sem])
  (repeat' first
  | ((with_reducible first | refine Nx.go ?_ | refine rP ?_ | refine rR ?_ | refine And.intro ?_ ?_ | fail) <;> try (simp (disch := first | exact dq | fail) only [go_sem]))
  | ((with_reducible refine Sp.go ?_ ?_) <;> intro h <;> (try (simp (disch := first | exact dq | fail) only [go_sem] at h)) <;> try (simp (disch := first | exact dq | fail) only [go_sem, h])) | fail)
  all_goals (try omega)
  refine aw_loop (α := Nat) (fun i => ⟨38, sl [(0, .msl 0 0 n n), (1, .iv (.int .i64 a)), (2, .iv (.int .i64 b)), (3, .iv (.int .i64 m)), (10, .iv (.int .i64 i))], stM n (fun k => v (swr σ a b i k)) T c, 2⟩)
    (fun i => i ≤ m) (fun i => m - i) 0 (wk_by [0, 1] ?_) (by omega) ?_
  · rw [swr_zero]
    (simp (disch := first | exact dq | fail) only [go_sem])
  rintro i hi
  have hl := rowF_len n (fun k => v (swr σ a b i k))
  by_cases hlt : i < m
  · have hc : (i : Int) < m := by omega
    have g1 := rowF_get (fun k => v (swr σ a b i k)) (show a + i < n by omega)
    have g2 := rowF_get (fun k => v (swr σ a b i k)) (show b + i < n by omega)
    have e1 : ((a : Int) + i).toNat = a + i := by omega
    have e2 : ((b : Int) + i).toNat = b + i := by omega
    have hs := swp_row n (fun k => v (swr σ a b i k)) (a + i) (b + i)
    rw [← swp_comp v (swr σ a b i) (a + i) (b + i), swr_succ σ (by omega)] at hs
    have g3 := swp_get (fun k => v (swr σ a b i k)) (i := a + i) (show b + i < n by omega)
    (repeat' first
  | ((with_reducible first | refine Nx.go ?_ | refine rP ?_ | refine rR ?_ | refine And.intro ?_ ?_ | fail) <;> try (simp (disch := first | exact dq | fail) only [go_sem, hc, hl, g1, g2, g3, e1, e2, hs, decide_true]))
  | ((with_reducible refine Sp.go ?_ ?_) <;> intro h <;> (try (simp (disch := first | exact dq | fail) only [go_sem] at h)) <;> try (simp (disch := first | exact dq | fail) only [go_sem, h, hc, hl, g1, g2, g3, e1, e2, hs, decide_true])) | fail)
    all_goals (try omega)
    refine ⟨i + 1, by omega, wk_by [0, 1] ?_, by omega⟩
    (simp (disch := first | exact dq | fail) only [go_sem])
  · obtain rfl : i = m := by omega
    have hc : ¬ ((i : Int) < i) := by omega
    (repeat' first
  | ((with_reducible first | refine Nx.go ?_ | refine rP ?_ | refine rR ?_ | refine And.intro ?_ ?_ | fail) <;> try (simp (disch := first | exact dq | fail) only [go_sem, hc, decide_false]))
  | ((with_reducible refine Sp.go ?_ ?_) <;> intro h <;> (try (simp (disch := first | exact dq | fail) only [go_sem] at h)) <;> try (simp (disch := first | exact dq | fail) only [go_sem, h, hc, decide_false])) | fail)
    all_goals (try omega)
    refine ⟨_, _, ⟨_, rfl, rfl, rfl⟩, fin_k [0, 1] ?_⟩
    (simp (disch := first | exact dq | fail) only [go_sem])
theorem rotate_spec (n a m b : Nat) (σ : Nat → Nat) (ham : a < m) (hmb : m < b) (hb : b ≤ n) (hn : n ≤ 1000000) :
    RCalls Tryz.prog 106 [.msl 0 0 n n, .iv (.int .i64 a), .iv (.int .i64 m), .iv (.int .i64 b), .fn g [.mp 1 0]] (stM n (fun k => v (σ k)) T c) (StS n v T c fun τ => τ = rotF σ a m b ∧ Sw a b σ τ) := by
  refine RCalls.of_aw Tryz.func106 rfl (by unfold Callable; kernel_rfl) (by kernel_rfl) (by simp [Tryz.ntmps106]) (by rintro _ _ ⟨_, rfl, _⟩; exact Nat.le_refl _) ?_; rw [Tryz.ntmps106, Tryz.results106]; (simp (disch := first | exact dq | fail) only [go_sem])
  (repeat' first
  | ((with_reducible first | refine Nx.go ?_ | refine rP ?_ | refine rR ?_ | refine And.intro ?_ ?_ | fail) <;> try (simp (disch := first | exact dq | fail) only [go_sem]))
  | ((with_reducible refine Sp.go ?_ ?_) <;> intro h <;> (try (simp (disch := first | exact dq | fail) only [go_sem] at h)) <;> try (simp (disch := first | exact dq | fail) only [go_sem, h])) | fail)
  all_goals (try omega)
  refine aw_loop (α := Nat × Nat × (Nat → Nat)) (fun x => ⟨58, sl [(0, .msl 0 0 n n), (2, .iv (.int .i64 m)), (4, .fn g [.mp 1 0]), (10, .iv (.int .i64 x.1)), (11, .iv (.int .i64 x.2.1))], stM n (fun k => v (x.2.2 k)) T c, 2⟩)
    (fun x => 0 < x.1 ∧ 0 < x.2.1 ∧ x.1 ≤ m - a ∧ x.2.1 ≤ b - m ∧ rotF x.2.2 (m - x.1) m (m + x.2.1) = rotF σ a m b ∧ Sw a b σ x.2.2) (fun x => x.1 + x.2.1) (m - a, b - m, σ) (wk_by [0, 1] ?_) ⟨by dsimp only; omega, by dsimp only; omega, Nat.le_refl _, Nat.le_refl _, by dsimp only; rw [show m - (m - a) = a by omega, show m + (b - m) = b by omega], .refl⟩ ?_
  · (simp (disch := first | exact dq | fail) only [go_sem])
    exact ⟨by congr 2; omega, by congr 2; omega⟩
  rintro ⟨i, j, τ⟩ ⟨hi, hj, him, hjb, hr, hsw⟩
  dsimp only at hi hj him hjb hr hsw
  by_cases hne : i = j
  · subst hne
    have hc : (i : Int) = i := rfl
    have hmi : (m : Int) - i = ((m - i : Nat) : Int) := by omega
    have hS := swapRange_spec (g := g) (T := T) (c := c) (v := v) n (m - i) m i τ (by omega) (by omega) hn
    (repeat' first
  | ((with_reducible first | refine Nx.go ?_ | refine rP ?_ | refine rR ?_ | refine And.intro ?_ ?_ | fail) <;> try (simp (disch := first | exact dq | fail) only [go_sem, hmi, eq_self, decide_true]))
  | ((with_reducible refine Sp.go ?_ ?_) <;> intro h <;> (try (simp (disch := first | exact dq | fail) only [go_sem] at h)) <;> try (simp (disch := first | exact dq | fail) only [go_sem, h, hmi, eq_self, decide_true])) | fail)
    all_goals (try omega)
    ((with_reducible refine left_callRs [0, 1] (hS) ?_ ?_); (· (simp (disch := first | exact dq | fail) only [go_sem])))
    rintro r M' ⟨κ, rfl, rfl, rfl⟩
    (simp (disch := first | exact dq | fail) only [go_sem])
    (repeat' first
  | ((with_reducible first | refine Nx.go ?_ | refine rP ?_ | refine rR ?_ | refine And.intro ?_ ?_ | fail) <;> try (simp (disch := first | exact dq | fail) only [go_sem]))
  | ((with_reducible refine Sp.go ?_ ?_) <;> intro h <;> (try (simp (disch := first | exact dq | fail) only [go_sem] at h)) <;> try (simp (disch := first | exact dq | fail) only [go_sem, h])) | fail)
    all_goals (try omega)
    refine ⟨_, _, ⟨swr τ (m - i) m i, rfl, rfl, by rw [rot_even τ (by omega), hr], ?_⟩, fin_k [0, 1] ?_⟩
    · exact hsw.trans (swr_sw τ (by omega) (by omega) (by omega))
    · (simp (disch := first | exact dq | fail) only [go_sem])
  · have hc : ¬ ((i : Int) = j) := by omega
    by_cases hgt : j < i
    · have hc2 : (i : Int) > j := by omega
      have hmi : (m : Int) - i = ((m - i : Nat) : Int) := by omega
      have hS := swapRange_spec (g := g) (T := T) (c := c) (v := v) n (m - i) m j τ (by omega) (by omega) hn
      (repeat' first
  | ((with_reducible first | refine Nx.go ?_ | refine rP ?_ | refine rR ?_ | refine And.intro ?_ ?_ | fail) <;> try (simp (disch := first | exact dq | fail) only [go_sem, hc, hc2, hmi, decide_true, decide_false]))
  | ((with_reducible refine Sp.go ?_ ?_) <;> intro h <;> (try (simp (disch := first | exact dq | fail) only [go_sem] at h)) <;> try (simp (disch := first | exact dq | fail) only [go_sem, h, hc, hc2, hmi, decide_true, decide_false])) | fail)
      all_goals (try omega)
      ((with_reducible refine left_callRs [0, 1] (hS) ?_ ?_); (· (simp (disch := first | exact dq | fail) only [go_sem])))
      rintro r M' ⟨κ, rfl, rfl, rfl⟩
      (simp (disch := first | exact dq | fail) only [go_sem])
      (repeat' first
  | ((with_reducible first | refine Nx.go ?_ | refine rP ?_ | refine rR ?_ | refine And.intro ?_ ?_ | fail) <;> try (simp (disch := first | exact dq | fail) only [go_sem]))
  | ((with_reducible refine Sp.go ?_ ?_) <;> intro h <;> (try (simp (disch := first | exact dq | fail) only [go_sem] at h)) <;> try (simp (disch := first | exact dq | fail) only [go_sem, h])) | fail)
      all_goals (try omega)
      refine ⟨(i - j, j, swr τ (m - i) m j), ⟨by dsimp only; omega, hj, by dsimp only; omega, hjb, by dsimp only; rw [rot_left τ (by omega) hgt, hr], hsw.trans (swr_sw τ (by omega) (by omega) (by omega))⟩, wk_by [0, 1] ?_, by dsimp only; omega⟩
      (simp (disch := first | exact dq | fail) only [go_sem])
      congr 2; omega
    · have hc2 : ¬ ((i : Int) > j) := by omega
      have hmi : (m : Int) - i = ((m - i : Nat) : Int) := by omega
      have hmj : (m : Int) + j - i = ((m + j - i : Nat) : Int) := by omega
      have hS := swapRange_spec (g := g) (T := T) (c := c) (v := v) n (m - i) (m + j - i) i τ (by omega) (by omega) hn
      (repeat' first
  | ((with_reducible first | refine Nx.go ?_ | refine rP ?_ | refine rR ?_ | refine And.intro ?_ ?_ | fail) <;> try (simp (disch := first | exact dq | fail) only [go_sem, hc, hc2, hmi, hmj, decide_false]))
  | ((with_reducible refine Sp.go ?_ ?_) <;> intro h <;> (try (simp (disch := first | exact dq | fail) only [go_sem] at h)) <;> try (simp (disch := first | exact dq | fail) only [go_sem, h, hc, hc2, hmi, hmj, decide_false])) | fail)
      all_goals (try omega)
      ((with_reducible refine left_callRs [0, 1] (hS) ?_ ?_); (· (simp (disch := first | exact dq | fail) only [go_sem])))
      rintro r M' ⟨κ, rfl, rfl, rfl⟩
      (simp (disch := first | exact dq | fail) only [go_sem])
      (repeat' first
  | ((with_reducible first | refine Nx.go ?_ | refine rP ?_ | refine rR ?_ | refine And.intro ?_ ?_ | fail) <;> try (simp (disch := first | exact dq | fail) only [go_sem]))
  | ((with_reducible refine Sp.go ?_ ?_) <;> intro h <;> (try (simp (disch := first | exact dq | fail) only [go_sem] at h)) <;> try (simp (disch := first | exact dq | fail) only [go_sem, h])) | fail)
      all_goals (try omega)
      refine ⟨(i, j - i, swr τ (m - i) (m + j - i) i), ⟨hi, by dsimp only; omega, him, by dsimp only; omega, by dsimp only; rw [rot_right τ (by omega) (by omega), hr], hsw.trans (swr_sw τ (by omega) (by omega) (by omega))⟩, wk_by [0, 1] ?_, by dsimp only; omega⟩
      (simp (disch := first | exact dq | fail) only [go_sem])
      congr 2; omega
end
end Go.Proofs.YtpjncojljamacaaGreat.AM
