
/- slices.SortStableFunc of a row of numbers: merging. No condition but lengths that fit. -/
import Derived.Test.YtpjncojljamacaaGreatW2
import Derived.Test.YtpjncojljamacaaGreatQC
set_option linter.unusedVariables false
set_option linter.unusedSimpArgs false
set_option maxRecDepth 20000
namespace Go.Proofs.YtpjncojljamacaaGreat.AM
open Go Go.RowKit

theorem SM.congr {K : Nat → Int} {N : Nat} {σ τ : Nat → Nat} {a m b : Nat} (h : SM K N σ a m b) (e : ∀ k, a ≤ k → k < b → τ k = σ k) : SM K N τ a m b := by
  have ham := h.am
  have hmb := h.mb
  refine ⟨ham, hmb, fun k h1 h2 => by rw [e k h1 h2]; exact h.lt k h1 h2, h.l.congr (fun k h1 h2 => ?_), h.r.congr (fun k h1 h2 => ?_), fun p q h1 h2 h3 h4 => ?_⟩
  · rw [e k h1 (by omega)]
  · rw [e k (by omega) h2]
  · rw [e p h1 (by omega), e q (by omega) h4]; exact h.x p q h1 h2 h3 h4
section
variable {g : Nat} {T : TypeId} {c : IV} {cf : Int → Int → Int} {v : Nat → Int} {K : Nat → Int}
set_option maxHeartbeats 4000000 in
theorem symOne_spec (hF : CmpF g T c cf v K) (n N : Nat) (hn : n ≤ 1000000) (a m b : Nat) (σ : Nat → Nat) (hm : m = a + 1) (hmb : m < b) (hbn : b ≤ n) (hsm : SM K N σ a m b) :
    RCalls Tryz.prog 83 [.msl 0 0 n n, .iv (.int .i64 a), .iv (.int .i64 m), .iv (.int .i64 b), .fn g [.mp 1 0]] (stM n (fun k => v (σ k)) T c) (StS n v T c fun τ => Sw a b σ τ ∧ Srt (fun k => eK K N (τ k)) a b) := by
  have hl := rowF_len n (fun k => v (σ k))
  have hc1 : (m : Int) - a = 1 := by omega
  have gA := rowF_get (fun k => v (σ k)) (show a < n by omega)
  refine RCalls.of_aw Tryz.func83 rfl (by unfold Callable; kernel_rfl) (by kernel_rfl) (by simp [Tryz.ntmps83]) (by rintro _ _ ⟨_, rfl, _⟩; exact Nat.le_refl _) ?_; rw [Tryz.ntmps83, Tryz.results83]; (simp (maxSteps := 1000000) (disch := first | exact dq | fail) only [go_sem])
  (repeat' first
  | ((with_reducible first | refine Nx.go ?_ | refine rP ?_ | refine rR ?_ | refine And.intro ?_ ?_ | fail) <;> try (simp (maxSteps := 1000000) (disch := first | exact dq | fail) only [go_sem, hc1, eq_self, decide_true]))
  | ((with_reducible refine Sp.go ?_ ?_) <;> intro h <;> (try (simp (maxSteps := 1000000) (disch := first | exact dq | fail) only [go_sem] at h)) <;> try (simp (maxSteps := 1000000) (disch := first | exact dq | fail) only [go_sem, h, hc1, eq_self, decide_true])) | fail)
  all_goals (try omega)
  refine aw_loop (α := Nat × Nat) (fun x => ⟨220, sl [(0, .msl 0 0 n n), (1, .iv (.int .i64 a)), (4, .fn g [.mp 1 0]), (10, .iv (.int .i64 x.1)), (11, .iv (.int .i64 x.2))], stM n (fun k => v (σ k)) T c, 2⟩)
    (fun x => (m ≤ x.1 ∧ x.1 ≤ x.2 ∧ x.2 ≤ b) ∧ (∀ q, m ≤ q → q < x.1 → K (σ q) < K (σ a)) ∧ (∀ q, x.2 ≤ q → q < b → ¬ K (σ q) < K (σ a))) (fun x => x.2 - x.1) (m, b) (wk_by [0, 1] ?_)
    ⟨⟨Nat.le_refl _, by dsimp only; omega, Nat.le_refl _⟩, fun q h1 h2 => by dsimp only at h2; omega, fun q h1 h2 => by dsimp only at h1; omega⟩ ?_
  · (simp (maxSteps := 1000000) (disch := first | exact dq | fail) only [go_sem])
  rintro ⟨i, j⟩ ⟨⟨hi, hij, hj⟩, hlo, hhi⟩
  dsimp only at hi hij hj hlo hhi
  by_cases hlt : i < j
  · obtain ⟨hh, eh0⟩ : ∃ hh, hh = (i + j) / 2 := ⟨_, rfl⟩
    have eh : ((i : Int) + j) / 2 = (hh : Int) := by omega
    have c0 : (i : Int) < j := by omega
    have g1 := rowF_get (fun k => v (σ k)) (show hh < n by omega)
    have hC := hF.call (σ hh) (σ a)
    have hk := hF.key (σ hh) (σ a)
    obtain ⟨z, hz⟩ : ∃ z, cf (v (σ hh)) (v (σ a)) = z := ⟨_, rfl⟩
    rw [hz] at hC hk
    (repeat' first
  | ((with_reducible first | refine Nx.go ?_ | refine rR ?_ | refine And.intro ?_ ?_ | fail) <;> try (simp (maxSteps := 1000000) (disch := first | exact dq | fail) only [go_sem, c0, fdiv2, eh, g1, gA, hl, decide_true]))
  | ((with_reducible refine Sp.go ?_ ?_) <;> intro h <;> (try (simp (maxSteps := 1000000) (disch := first | exact dq | fail) only [go_sem] at h)) <;> try (simp (maxSteps := 1000000) (disch := first | exact dq | fail) only [go_sem, h, c0, fdiv2, eh, g1, gA, hl, decide_true])) | fail)
    all_goals (try omega)
    ((first | with_reducible refine left_callMs [1] (hC) ?_ ?_ | with_reducible refine leftD_callMs [1] rfl (hC) ?_ ?_ | with_reducible refine leftD_callRs [1] (by decide) (hC) ?_ ?_); (· (simp (maxSteps := 1000000) (disch := first | exact dq | fail) only [go_sem])); try (simp (maxSteps := 1000000) (disch := first | exact dq | fail) only [go_sem]))
    by_cases hless : z < 0
    · (repeat' first
  | ((with_reducible first | refine Nx.go ?_ | refine rR ?_ | refine And.intro ?_ ?_ | fail) <;> try (simp (maxSteps := 1000000) (disch := first | exact dq | fail) only [go_sem, hless, decide_true]))
  | ((with_reducible refine Sp.go ?_ ?_) <;> intro h <;> (try (simp (maxSteps := 1000000) (disch := first | exact dq | fail) only [go_sem] at h)) <;> try (simp (maxSteps := 1000000) (disch := first | exact dq | fail) only [go_sem, h, hless, decide_true])) | fail)
      all_goals (try omega)
      refine ⟨(hh + 1, j), ⟨⟨by dsimp only; omega, by dsimp only; omega, hj⟩, fun q h1 h2 => ?_, hhi⟩, wk_by [0, 1] ?_, by dsimp only; omega⟩
      · have := hsm.keyR (p := q) (q := hh) h1 (by dsimp only at h2; omega) (by omega)
        have := hk.1 hless
        omega
      · (simp (maxSteps := 1000000) (disch := first | exact dq | fail) only [go_sem])
    · (repeat' first
  | ((with_reducible first | refine Nx.go ?_ | refine rR ?_ | refine And.intro ?_ ?_ | fail) <;> try (simp (maxSteps := 1000000) (disch := first | exact dq | fail) only [go_sem, hless, decide_false]))
  | ((with_reducible refine Sp.go ?_ ?_) <;> intro h <;> (try (simp (maxSteps := 1000000) (disch := first | exact dq | fail) only [go_sem] at h)) <;> try (simp (maxSteps := 1000000) (disch := first | exact dq | fail) only [go_sem, h, hless, decide_false])) | fail)
      all_goals (try omega)
      refine ⟨(i, hh), ⟨⟨hi, by dsimp only; omega, by dsimp only; omega⟩, hlo, fun q h1 h2 => ?_⟩, wk_by [0, 1] ?_, by dsimp only; omega⟩
      · have := hsm.keyR (p := hh) (q := q) (by omega) h1 h2
        have := fun hh2 => hless (hk.2 hh2)
        omega
      · (simp (maxSteps := 1000000) (disch := first | exact dq | fail) only [go_sem])
  · have c0 : ¬ ((i : Int) < j) := by omega
    obtain rfl : j = i := by omega
    subst hm
    have hfin := hsm.one (i := j) ⟨hi, hj⟩ hlo hhi
    (repeat' first
  | ((with_reducible first | refine Nx.go ?_ | refine rP ?_ | refine rR ?_ | refine And.intro ?_ ?_ | fail) <;> try (simp (maxSteps := 1000000) (disch := first | exact dq | fail) only [go_sem, c0, decide_false]))
  | ((with_reducible refine Sp.go ?_ ?_) <;> intro h <;> (try (simp (maxSteps := 1000000) (disch := first | exact dq | fail) only [go_sem] at h)) <;> try (simp (maxSteps := 1000000) (disch := first | exact dq | fail) only [go_sem, h, c0, decide_false])) | fail)
    all_goals (try omega)
    refine aw_loop (α := Nat) (fun k => ⟨220, sl [(0, .msl 0 0 n n), (10, .iv (.int .i64 j)), (13, .iv (.int .i64 k))], stM n (fun x => v (rotF σ a (a + 1) (k + 1) x)) T c, 2⟩)
      (fun k => a ≤ k ∧ k + 1 ≤ j ∧ Sw a b σ (rotF σ a (a + 1) (k + 1))) (fun k => j - k) a (wk_by [0, 1] ?_) ⟨Nat.le_refl _, by omega, by rw [rot_none σ (.inr rfl) (by omega) (by omega)]; exact .refl⟩ ?_
    · rw [rot_none σ (.inr rfl) (by omega) (by omega)]
      (simp (maxSteps := 1000000) (disch := first | exact dq | fail) only [go_sem])
    rintro k ⟨hk1, hk2, hsw⟩
    have hl2 := rowF_len n (fun x => v (rotF σ a (a + 1) (k + 1) x))
    by_cases hkj : k + 1 < j
    · have c3 : (k : Int) < (j : Int) - 1 := by omega
      have g1 := rowF_get (fun x => v (rotF σ a (a + 1) (k + 1) x)) (show k < n by omega)
      have g2 := rowF_get (fun x => v (rotF σ a (a + 1) (k + 1) x)) (show k + 1 < n by omega)
      have e1 : ((k : Int) + 1).toNat = k + 1 := by omega
      have hs := swp_row n (fun x => v (rotF σ a (a + 1) (k + 1) x)) k (k + 1)
      rw [← swp_comp v (rotF σ a (a + 1) (k + 1)) k (k + 1), rot_up σ hk1] at hs
      have g3 := swp_get (fun x => v (rotF σ a (a + 1) (k + 1) x)) (i := k) (show k + 1 < n by omega)
      have hsw2 := hsw.swap k (k + 1) ⟨by omega, by omega⟩ ⟨by omega, by omega⟩
      rw [rot_up σ hk1] at hsw2
      (repeat' first
  | ((with_reducible first | refine Nx.go ?_ | refine rP ?_ | refine rR ?_ | refine And.intro ?_ ?_ | fail) <;> try (simp (maxSteps := 1000000) (disch := first | exact dq | fail) only [go_sem, c3, hl2, g1, g2, g3, e1, hs, decide_true]))
  | ((with_reducible refine Sp.go ?_ ?_) <;> intro h <;> (try (simp (maxSteps := 1000000) (disch := first | exact dq | fail) only [go_sem] at h)) <;> try (simp (maxSteps := 1000000) (disch := first | exact dq | fail) only [go_sem, h, c3, hl2, g1, g2, g3, e1, hs, decide_true])) | fail)
      all_goals (try omega)
      refine ⟨k + 1, ⟨by omega, by omega, hsw2⟩, wk_by [0, 1] ?_, by omega⟩
      (simp (maxSteps := 1000000) (disch := first | exact dq | fail) only [go_sem])
    · have c3 : ¬ ((k : Int) < (j : Int) - 1) := by omega
      obtain rfl : k + 1 = j := by omega
      (repeat' first
  | ((with_reducible first | refine Nx.go ?_ | refine rP ?_ | refine rR ?_ | refine And.intro ?_ ?_ | fail) <;> try (simp (maxSteps := 1000000) (disch := first | exact dq | fail) only [go_sem, c3, decide_false]))
  | ((with_reducible refine Sp.go ?_ ?_) <;> intro h <;> (try (simp (maxSteps := 1000000) (disch := first | exact dq | fail) only [go_sem] at h)) <;> try (simp (maxSteps := 1000000) (disch := first | exact dq | fail) only [go_sem, h, c3, decide_false])) | fail)
      all_goals (try omega)
      refine ⟨_, _, ⟨_, rfl, rfl, hsw, hfin⟩, fin_k [0, 1] ?_⟩
      (simp (maxSteps := 1000000) (disch := first | exact dq | fail) only [go_sem])
set_option maxHeartbeats 4000000 in
theorem symLast_spec (hF : CmpF g T c cf v K) (n N : Nat) (hn : n ≤ 1000000) (a m b : Nat) (σ : Nat → Nat) (ham : a + 1 < m) (hb : b = m + 1) (hbn : b ≤ n) (hsm : SM K N σ a m b) :
    RCalls Tryz.prog 83 [.msl 0 0 n n, .iv (.int .i64 a), .iv (.int .i64 m), .iv (.int .i64 b), .fn g [.mp 1 0]] (stM n (fun k => v (σ k)) T c) (StS n v T c fun τ => Sw a b σ τ ∧ Srt (fun k => eK K N (τ k)) a b) := by
  have hl := rowF_len n (fun k => v (σ k))
  have hc1 : ¬ ((m : Int) - a = 1) := by omega
  have hc2 : (b : Int) - m = 1 := by omega
  have gM := rowF_get (fun k => v (σ k)) (show m < n by omega)
  refine RCalls.of_aw Tryz.func83 rfl (by unfold Callable; kernel_rfl) (by kernel_rfl) (by simp [Tryz.ntmps83]) (by rintro _ _ ⟨_, rfl, _⟩; exact Nat.le_refl _) ?_; rw [Tryz.ntmps83, Tryz.results83]; (simp (maxSteps := 1000000) (disch := first | exact dq | fail) only [go_sem])
  (repeat' first
  | ((with_reducible first | refine Nx.go ?_ | refine rP ?_ | refine rR ?_ | refine And.intro ?_ ?_ | fail) <;> try (simp (maxSteps := 1000000) (disch := first | exact dq | fail) only [go_sem, hc1, hc2, eq_self, decide_true, decide_false]))
  | ((with_reducible refine Sp.go ?_ ?_) <;> intro h <;> (try (simp (maxSteps := 1000000) (disch := first | exact dq | fail) only [go_sem] at h)) <;> try (simp (maxSteps := 1000000) (disch := first | exact dq | fail) only [go_sem, h, hc1, hc2, eq_self, decide_true, decide_false])) | fail)
  all_goals (try omega)
  refine aw_loop (α := Nat × Nat) (fun x => ⟨220, sl [(0, .msl 0 0 n n), (2, .iv (.int .i64 m)), (4, .fn g [.mp 1 0]), (14, .iv (.int .i64 x.1)), (15, .iv (.int .i64 x.2))], stM n (fun k => v (σ k)) T c, 2⟩)
    (fun x => (a ≤ x.1 ∧ x.1 ≤ x.2 ∧ x.2 ≤ m) ∧ (∀ p, a ≤ p → p < x.1 → ¬ K (σ m) < K (σ p)) ∧ (∀ p, x.2 ≤ p → p < m → K (σ m) < K (σ p))) (fun x => x.2 - x.1) (a, m) (wk_by [0, 1] ?_)
    ⟨⟨Nat.le_refl _, by dsimp only; omega, Nat.le_refl _⟩, fun q h1 h2 => by dsimp only at h2; omega, fun q h1 h2 => by dsimp only at h1; omega⟩ ?_
  · (simp (maxSteps := 1000000) (disch := first | exact dq | fail) only [go_sem])
  rintro ⟨i, j⟩ ⟨⟨hi, hij, hj⟩, hlo, hhi⟩
  dsimp only at hi hij hj hlo hhi
  by_cases hlt : i < j
  · obtain ⟨hh, eh0⟩ : ∃ hh, hh = (i + j) / 2 := ⟨_, rfl⟩
    have eh : ((i : Int) + j) / 2 = (hh : Int) := by omega
    have c0 : (i : Int) < j := by omega
    have g1 := rowF_get (fun k => v (σ k)) (show hh < n by omega)
    have hC := hF.call (σ m) (σ hh)
    have hk := hF.key (σ m) (σ hh)
    obtain ⟨z, hz⟩ : ∃ z, cf (v (σ m)) (v (σ hh)) = z := ⟨_, rfl⟩
    rw [hz] at hC hk
    (repeat' first
  | ((with_reducible first | refine Nx.go ?_ | refine rR ?_ | refine And.intro ?_ ?_ | fail) <;> try (simp (maxSteps := 1000000) (disch := first | exact dq | fail) only [go_sem, c0, fdiv2, eh, g1, gM, hl, decide_true]))
  | ((with_reducible refine Sp.go ?_ ?_) <;> intro h <;> (try (simp (maxSteps := 1000000) (disch := first | exact dq | fail) only [go_sem] at h)) <;> try (simp (maxSteps := 1000000) (disch := first | exact dq | fail) only [go_sem, h, c0, fdiv2, eh, g1, gM, hl, decide_true])) | fail)
    all_goals (try omega)
    ((first | with_reducible refine left_callMs [1] (hC) ?_ ?_ | with_reducible refine leftD_callMs [1] rfl (hC) ?_ ?_ | with_reducible refine leftD_callRs [1] (by decide) (hC) ?_ ?_); (· (simp (maxSteps := 1000000) (disch := first | exact dq | fail) only [go_sem])); try (simp (maxSteps := 1000000) (disch := first | exact dq | fail) only [go_sem]))
    by_cases hless : z < 0
    · (repeat' first
  | ((with_reducible first | refine Nx.go ?_ | refine rR ?_ | refine And.intro ?_ ?_ | fail) <;> try (simp (maxSteps := 1000000) (disch := first | exact dq | fail) only [go_sem, hless, decide_true]))
  | ((with_reducible refine Sp.go ?_ ?_) <;> intro h <;> (try (simp (maxSteps := 1000000) (disch := first | exact dq | fail) only [go_sem] at h)) <;> try (simp (maxSteps := 1000000) (disch := first | exact dq | fail) only [go_sem, h, hless, decide_true])) | fail)
      all_goals (try omega)
      refine ⟨(i, hh), ⟨⟨hi, by dsimp only; omega, by dsimp only; omega⟩, hlo, fun q h1 h2 => ?_⟩, wk_by [0, 1] ?_, by dsimp only; omega⟩
      · have := hsm.keyL (p := hh) (q := q) (by omega) h1 h2
        have := hk.1 hless
        omega
      · (simp (maxSteps := 1000000) (disch := first | exact dq | fail) only [go_sem])
    · (repeat' first
  | ((with_reducible first | refine Nx.go ?_ | refine rR ?_ | refine And.intro ?_ ?_ | fail) <;> try (simp (maxSteps := 1000000) (disch := first | exact dq | fail) only [go_sem, hless, decide_false]))
  | ((with_reducible refine Sp.go ?_ ?_) <;> intro h <;> (try (simp (maxSteps := 1000000) (disch := first | exact dq | fail) only [go_sem] at h)) <;> try (simp (maxSteps := 1000000) (disch := first | exact dq | fail) only [go_sem, h, hless, decide_false])) | fail)
      all_goals (try omega)
      refine ⟨(hh + 1, j), ⟨⟨by dsimp only; omega, by dsimp only; omega, hj⟩, fun q h1 h2 => ?_, hhi⟩, wk_by [0, 1] ?_, by dsimp only; omega⟩
      · have := hsm.keyL (p := q) (q := hh) h1 (by dsimp only at h2; omega) (by omega)
        have := fun hh2 => hless (hk.2 hh2)
        omega
      · (simp (maxSteps := 1000000) (disch := first | exact dq | fail) only [go_sem])
  · have c0 : ¬ ((i : Int) < j) := by omega
    obtain rfl : j = i := by omega
    subst hb
    have hfin := hsm.last (i := j) ⟨hi, hj⟩ hlo hhi
    (repeat' first
  | ((with_reducible first | refine Nx.go ?_ | refine rP ?_ | refine rR ?_ | refine And.intro ?_ ?_ | fail) <;> try (simp (maxSteps := 1000000) (disch := first | exact dq | fail) only [go_sem, c0, decide_false]))
  | ((with_reducible refine Sp.go ?_ ?_) <;> intro h <;> (try (simp (maxSteps := 1000000) (disch := first | exact dq | fail) only [go_sem] at h)) <;> try (simp (maxSteps := 1000000) (disch := first | exact dq | fail) only [go_sem, h, c0, decide_false])) | fail)
    all_goals (try omega)
    refine aw_loop (α := Nat) (fun k => ⟨220, sl [(0, .msl 0 0 n n), (14, .iv (.int .i64 j)), (17, .iv (.int .i64 k))], stM n (fun x => v (rotF σ k m (m + 1) x)) T c, 2⟩)
      (fun k => j ≤ k ∧ k ≤ m ∧ Sw a (m + 1) σ (rotF σ k m (m + 1))) (fun k => k) m (wk_by [0, 1] ?_) ⟨by omega, Nat.le_refl _, by rw [rot_none σ (.inl rfl) (by omega) (by omega)]; exact .refl⟩ ?_
    · rw [rot_none σ (.inl rfl) (by omega) (by omega)]
      (simp (maxSteps := 1000000) (disch := first | exact dq | fail) only [go_sem])
    rintro k ⟨hk1, hk2, hsw⟩
    have hl2 := rowF_len n (fun x => v (rotF σ k m (m + 1) x))
    by_cases hkj : j < k
    · have c3 : (k : Int) > j := by omega
      have g1 := rowF_get (fun x => v (rotF σ k m (m + 1) x)) (show k < n by omega)
      have g2 := rowF_get (fun x => v (rotF σ k m (m + 1) x)) (show k - 1 < n by omega)
      have e1 : ((k : Int) - 1).toNat = k - 1 := by omega
      have hs := swp_row n (fun x => v (rotF σ k m (m + 1) x)) k (k - 1)
      rw [← swp_comp v (rotF σ k m (m + 1)) k (k - 1), rot_down σ (by omega) hk2] at hs
      have g3 := swp_get (fun x => v (rotF σ k m (m + 1) x)) (i := k) (show k - 1 < n by omega)
      have hsw2 := hsw.swap k (k - 1) ⟨by omega, by omega⟩ ⟨by omega, by omega⟩
      rw [rot_down σ (by omega) hk2] at hsw2
      (repeat' first
  | ((with_reducible first | refine Nx.go ?_ | refine rP ?_ | refine rR ?_ | refine And.intro ?_ ?_ | fail) <;> try (simp (maxSteps := 1000000) (disch := first | exact dq | fail) only [go_sem, c3, hl2, g1, g2, g3, e1, hs, decide_true]))
  | ((with_reducible refine Sp.go ?_ ?_) <;> intro h <;> (try (simp (maxSteps := 1000000) (disch := first | exact dq | fail) only [go_sem] at h)) <;> try (simp (maxSteps := 1000000) (disch := first | exact dq | fail) only [go_sem, h, c3, hl2, g1, g2, g3, e1, hs, decide_true])) | fail)
      all_goals (try omega)
      refine ⟨k - 1, ⟨by omega, by omega, hsw2⟩, wk_by [0, 1] ?_, by omega⟩
      (simp (maxSteps := 1000000) (disch := first | exact dq | fail) only [go_sem])
      congr 2; omega
    · have c3 : ¬ ((k : Int) > j) := by omega
      obtain rfl : k = j := by omega
      (repeat' first
  | ((with_reducible first | refine Nx.go ?_ | refine rP ?_ | refine rR ?_ | refine And.intro ?_ ?_ | fail) <;> try (simp (maxSteps := 1000000) (disch := first | exact dq | fail) only [go_sem, c3, decide_false]))
  | ((with_reducible refine Sp.go ?_ ?_) <;> intro h <;> (try (simp (maxSteps := 1000000) (disch := first | exact dq | fail) only [go_sem] at h)) <;> try (simp (maxSteps := 1000000) (disch := first | exact dq | fail) only [go_sem, h, c3, decide_false])) | fail)
      all_goals (try omega)
      refine ⟨_, _, ⟨_, rfl, rfl, hsw, hfin⟩, fin_k [0, 1] ?_⟩
      (simp (maxSteps := 1000000) (disch := first | exact dq | fail) only [go_sem])
set_option maxHeartbeats 8000000 in
theorem symMerge_spec (hF : CmpF g T c cf v K) (n N : Nat) (hn : n ≤ 1000000) : ∀ (d a m b : Nat) (σ : Nat → Nat), b - a ≤ d → a < m → m < b → b ≤ n → SM K N σ a m b →
    RCalls Tryz.prog 83 [.msl 0 0 n n, .iv (.int .i64 a), .iv (.int .i64 m), .iv (.int .i64 b), .fn g [.mp 1 0]] (stM n (fun k => v (σ k)) T c) (StS n v T c fun τ => Sw a b σ τ ∧ Srt (fun k => eK K N (τ k)) a b) := by
  intro d
  induction d with
  | zero => intro a m b σ hd h1 h2; omega
  | succ d ih =>
  intro a m b σ hd ham hmb hbn hsm
  by_cases d1 : m = a + 1
  · exact symOne_spec hF n N hn a m b σ d1 hmb hbn hsm
  by_cases d2 : b = m + 1
  · exact symLast_spec hF n N hn a m b σ (by omega) d2 hbn hsm
  have hl := rowF_len n (fun k => v (σ k))
  have hc1 : ¬ ((m : Int) - a = 1) := by omega
  have hc2 : ¬ ((b : Int) - m = 1) := by omega
  obtain ⟨mid, hmid⟩ : ∃ mid, mid = (a + b) / 2 := ⟨_, rfl⟩
  have em : ((a : Int) + b) / 2 = (mid : Int) := by omega
  obtain ⟨s0, r0, h0⟩ : ∃ s0 r0, (mid < m ∧ s0 = mid + m - b ∧ r0 = mid) ∨ (m ≤ mid ∧ s0 = a ∧ r0 = m) := by
    rcases Nat.lt_or_ge mid m with g | g
    · exact ⟨_, _, .inl ⟨g, rfl, rfl⟩⟩
    · exact ⟨_, _, .inr ⟨g, rfl, rfl⟩⟩
  have hs0 : s0 ≤ r0 ∧ a ≤ s0 ∧ r0 ≤ m ∧ r0 ≤ mid ∧ (∀ x, s0 ≤ x → x < r0 → m ≤ mid + m - 1 - x ∧ mid + m - 1 - x < b) := by
    refine ⟨by omega, by omega, by omega, by omega, fun x h1 h2 => by omega⟩
  obtain ⟨s1, s2, s3, s4, s5⟩ := hs0
  refine RCalls.of_aw Tryz.func83 rfl (by unfold Callable; kernel_rfl) (by kernel_rfl) (by simp [Tryz.ntmps83]) (by rintro _ _ ⟨_, rfl, _⟩; exact Nat.le_refl _) ?_; rw [Tryz.ntmps83, Tryz.results83]; (simp (maxSteps := 1000000) (disch := first | exact dq | fail) only [go_sem])
  refine aw_cut ⟨220, sl [(0, .msl 0 0 n n), (1, .iv (.int .i64 a)), (2, .iv (.int .i64 m)), (3, .iv (.int .i64 b)), (4, .fn g [.mp 1 0])], stM n (fun k => v (σ k)) T c, 2⟩ ?_ ?_
  · (repeat' first
  | ((with_reducible first | refine Nx.go ?_ | refine rP ?_ | refine rR ?_ | refine And.intro ?_ ?_ | fail) <;> try (simp (maxSteps := 1000000) (disch := first | exact dq | fail) only [go_sem, hc1, decide_false]))
  | ((with_reducible refine Sp.go ?_ ?_) <;> intro h <;> (try (simp (maxSteps := 1000000) (disch := first | exact dq | fail) only [go_sem] at h)) <;> try (simp (maxSteps := 1000000) (disch := first | exact dq | fail) only [go_sem, h, hc1, decide_false])) | fail)
    all_goals (try omega)
    refine wk_by [0, 1] ?_
    (simp (maxSteps := 1000000) (disch := first | exact dq | fail) only [go_sem])
  refine aw_cut ⟨220, sl [(0, .msl 0 0 n n), (1, .iv (.int .i64 a)), (2, .iv (.int .i64 m)), (3, .iv (.int .i64 b)), (4, .fn g [.mp 1 0])], stM n (fun k => v (σ k)) T c, 2⟩ ?_ ?_
  · (repeat' first
  | ((with_reducible first | refine Nx.go ?_ | refine rP ?_ | refine rR ?_ | refine And.intro ?_ ?_ | fail) <;> try (simp (maxSteps := 1000000) (disch := first | exact dq | fail) only [go_sem, hc2, decide_false]))
  | ((with_reducible refine Sp.go ?_ ?_) <;> intro h <;> (try (simp (maxSteps := 1000000) (disch := first | exact dq | fail) only [go_sem] at h)) <;> try (simp (maxSteps := 1000000) (disch := first | exact dq | fail) only [go_sem, h, hc2, decide_false])) | fail)
    all_goals (try omega)
    refine wk_by [0, 1] ?_
    (simp (maxSteps := 1000000) (disch := first | exact dq | fail) only [go_sem])
  with_reducible refine aw_seq ?_
  with_reducible refine aw_region (aops_run ?_)
  (simp (maxSteps := 1000000) (disch := first | exact dq | fail) only [go_sem, fdiv2, em])
  with_reducible refine aw_seq ?_
  with_reducible refine aw_region (aops_run ?_)
  (simp (maxSteps := 1000000) (disch := first | exact dq | fail) only [go_sem])
  with_reducible refine aw_seq ?_
  with_reducible refine aw_region (aops_run ?_)
  (simp (maxSteps := 1000000) (disch := first | exact dq | fail) only [go_sem])
  refine aw_cut ⟨220, sl [(0, .msl 0 0 n n), (1, .iv (.int .i64 a)), (2, .iv (.int .i64 m)), (3, .iv (.int .i64 b)), (4, .fn g [.mp 1 0]), (18, .iv (.int .i64 mid)), (19, .iv (.int .i64 ((mid : Int) + m))), (20, .iv (.int .i64 s0)), (21, .iv (.int .i64 r0))], stM n (fun k => v (σ k)) T c, 2⟩ ?_ ?_
  · rcases h0 with ⟨k1, k2, k3⟩ | ⟨k1, k2, k3⟩
    · have c3 : (m : Int) > mid := by omega
      have es : (mid : Int) + m - b = (s0 : Int) := by omega
      (repeat' first
  | ((with_reducible first | refine Nx.go ?_ | refine rP ?_ | refine rR ?_ | refine And.intro ?_ ?_ | fail) <;> try (simp (maxSteps := 1000000) (disch := first | exact dq | fail) only [go_sem, c3, es, decide_true]))
  | ((with_reducible refine Sp.go ?_ ?_) <;> intro h <;> (try (simp (maxSteps := 1000000) (disch := first | exact dq | fail) only [go_sem] at h)) <;> try (simp (maxSteps := 1000000) (disch := first | exact dq | fail) only [go_sem, h, c3, es, decide_true])) | fail)
      all_goals (try omega)
      refine wk_by [0, 1] ?_
      (simp (maxSteps := 1000000) (disch := first | exact dq | fail) only [go_sem, k3])
    · have c3 : ¬ ((m : Int) > mid) := by omega
      (repeat' first
  | ((with_reducible first | refine Nx.go ?_ | refine rP ?_ | refine rR ?_ | refine And.intro ?_ ?_ | fail) <;> try (simp (maxSteps := 1000000) (disch := first | exact dq | fail) only [go_sem, c3, decide_false]))
  | ((with_reducible refine Sp.go ?_ ?_) <;> intro h <;> (try (simp (maxSteps := 1000000) (disch := first | exact dq | fail) only [go_sem] at h)) <;> try (simp (maxSteps := 1000000) (disch := first | exact dq | fail) only [go_sem, h, c3, decide_false])) | fail)
      all_goals (try omega)
      refine wk_by [0, 1] ?_
      (simp (maxSteps := 1000000) (disch := first | exact dq | fail) only [go_sem, k2, k3])
  (repeat' first
  | ((with_reducible first | refine Nx.go ?_ | refine rP ?_ | refine rR ?_ | refine And.intro ?_ ?_ | fail) <;> try (simp (maxSteps := 1000000) (disch := first | exact dq | fail) only [go_sem]))
  | ((with_reducible refine Sp.go ?_ ?_) <;> intro h <;> (try (simp (maxSteps := 1000000) (disch := first | exact dq | fail) only [go_sem] at h)) <;> try (simp (maxSteps := 1000000) (disch := first | exact dq | fail) only [go_sem, h])) | fail)
  all_goals (try omega)
  refine aw_postE (β := Nat) (fun x => ⟨220, sl [(0, .msl 0 0 n n), (1, .iv (.int .i64 a)), (2, .iv (.int .i64 m)), (3, .iv (.int .i64 b)), (4, .fn g [.mp 1 0]), (18, .iv (.int .i64 mid)), (19, .iv (.int .i64 ((mid : Int) + m))), (20, .iv (.int .i64 x))], stM n (fun k => v (σ k)) T c, 2⟩)
    (fun x => (s0 ≤ x ∧ x ≤ r0) ∧ (∀ y, s0 ≤ y → y < x → ¬ K (σ (mid + m - 1 - y)) < K (σ y)) ∧ (∀ y, x ≤ y → y < r0 → K (σ (mid + m - 1 - y)) < K (σ y))) ?_ ?_
  · refine aw_loop (α := Nat × Nat) (fun x => ⟨220, sl [(0, .msl 0 0 n n), (1, .iv (.int .i64 a)), (2, .iv (.int .i64 m)), (3, .iv (.int .i64 b)), (4, .fn g [.mp 1 0]), (18, .iv (.int .i64 mid)), (19, .iv (.int .i64 ((mid : Int) + m))), (20, .iv (.int .i64 x.1)), (21, .iv (.int .i64 x.2)), (22, .iv (.int .i64 ((mid : Int) + m - 1)))], stM n (fun k => v (σ k)) T c, 2⟩)
      (fun x => (s0 ≤ x.1 ∧ x.1 ≤ x.2 ∧ x.2 ≤ r0) ∧ (∀ y, s0 ≤ y → y < x.1 → ¬ K (σ (mid + m - 1 - y)) < K (σ y)) ∧ (∀ y, x.2 ≤ y → y < r0 → K (σ (mid + m - 1 - y)) < K (σ y))) (fun x => x.2 - x.1) (s0, r0) (wk_by [0, 1] ?_)
      ⟨⟨Nat.le_refl _, s1, Nat.le_refl _⟩, fun q h1 h2 => by dsimp only at h2; omega, fun q h1 h2 => by dsimp only at h1; omega⟩ ?_
    · (simp (maxSteps := 1000000) (disch := first | exact dq | fail) only [go_sem])
    rintro ⟨i, j⟩ ⟨⟨hi, hij, hj⟩, hlo, hhi⟩
    dsimp only at hi hij hj hlo hhi
    by_cases hlt : i < j
    · obtain ⟨hh, eh0⟩ : ∃ hh, hh = (i + j) / 2 := ⟨_, rfl⟩
      have eh : ((i : Int) + j) / 2 = (hh : Int) := by omega
      have c0 : (i : Int) < j := by omega
      have s5h := s5 hh (by omega) (by omega)
      have ep : (mid : Int) + m - 1 - hh = ((mid + m - 1 - hh : Nat) : Int) := by omega
      have g1 := rowF_get (fun k => v (σ k)) (show hh < n by omega)
      have g2 := rowF_get (fun k => v (σ k)) (show mid + m - 1 - hh < n by omega)
      have hC := hF.call (σ (mid + m - 1 - hh)) (σ hh)
      have hk := hF.key (σ (mid + m - 1 - hh)) (σ hh)
      obtain ⟨z, hz⟩ : ∃ z, cf (v (σ (mid + m - 1 - hh))) (v (σ hh)) = z := ⟨_, rfl⟩
      rw [hz] at hC hk
      (repeat' first
  | ((with_reducible first | refine Nx.go ?_ | refine rR ?_ | refine And.intro ?_ ?_ | fail) <;> try (simp (maxSteps := 1000000) (disch := first | exact dq | fail) only [go_sem, c0, fdiv2, eh, ep, g1, g2, hl, decide_true]))
  | ((with_reducible refine Sp.go ?_ ?_) <;> intro h <;> (try (simp (maxSteps := 1000000) (disch := first | exact dq | fail) only [go_sem] at h)) <;> try (simp (maxSteps := 1000000) (disch := first | exact dq | fail) only [go_sem, h, c0, fdiv2, eh, ep, g1, g2, hl, decide_true])) | fail)
      all_goals (try omega)
      ((first | with_reducible refine left_callMs [1] (hC) ?_ ?_ | with_reducible refine leftD_callMs [1] rfl (hC) ?_ ?_ | with_reducible refine leftD_callRs [1] (by decide) (hC) ?_ ?_); (· (simp (maxSteps := 1000000) (disch := first | exact dq | fail) only [go_sem])); try (simp (maxSteps := 1000000) (disch := first | exact dq | fail) only [go_sem]))
      by_cases hless : z < 0
      · (repeat' first
  | ((with_reducible first | refine Nx.go ?_ | refine rR ?_ | refine And.intro ?_ ?_ | fail) <;> try (simp (maxSteps := 1000000) (disch := first | exact dq | fail) only [go_sem, hless, decide_true]))
  | ((with_reducible refine Sp.go ?_ ?_) <;> intro h <;> (try (simp (maxSteps := 1000000) (disch := first | exact dq | fail) only [go_sem] at h)) <;> try (simp (maxSteps := 1000000) (disch := first | exact dq | fail) only [go_sem, h, hless, decide_true])) | fail)
        all_goals (try omega)
        refine ⟨(i, hh), ⟨⟨hi, by dsimp only; omega, by dsimp only; omega⟩, hlo, fun q h1 h2 => ?_⟩, wk_by [0, 1] ?_, by dsimp only; omega⟩
        · have s5q := s5 q (by dsimp only at h1; omega) h2
          have k1 := hsm.keyL (p := hh) (q := q) (by omega) h1 (by omega)
          have k2 := hsm.keyR (p := mid + m - 1 - q) (q := mid + m - 1 - hh) (by omega) (by dsimp only at h1; omega) (by omega)
          have := hk.1 hless
          omega
        · (simp (maxSteps := 1000000) (disch := first | exact dq | fail) only [go_sem])
      · (repeat' first
  | ((with_reducible first | refine Nx.go ?_ | refine rR ?_ | refine And.intro ?_ ?_ | fail) <;> try (simp (maxSteps := 1000000) (disch := first | exact dq | fail) only [go_sem, hless, decide_false]))
  | ((with_reducible refine Sp.go ?_ ?_) <;> intro h <;> (try (simp (maxSteps := 1000000) (disch := first | exact dq | fail) only [go_sem] at h)) <;> try (simp (maxSteps := 1000000) (disch := first | exact dq | fail) only [go_sem, h, hless, decide_false])) | fail)
        all_goals (try omega)
        refine ⟨(hh + 1, j), ⟨⟨by dsimp only; omega, by dsimp only; omega, hj⟩, fun q h1 h2 => ?_, hhi⟩, wk_by [0, 1] ?_, by dsimp only; omega⟩
        · dsimp only at h2
          have s5q := s5 q h1 (by omega)
          have k1 := hsm.keyL (p := q) (q := hh) (by omega) (by omega) (by omega)
          have k2 := hsm.keyR (p := mid + m - 1 - hh) (q := mid + m - 1 - q) (by omega) (by omega) (by omega)
          have := fun hh2 => hless (hk.2 hh2)
          omega
        · (simp (maxSteps := 1000000) (disch := first | exact dq | fail) only [go_sem])
    · have c0 : ¬ ((i : Int) < j) := by omega
      obtain rfl : j = i := by omega
      (repeat' first
  | ((with_reducible first | refine Nx.go ?_ | refine rP ?_ | refine rR ?_ | refine And.intro ?_ ?_ | fail) <;> try (simp (maxSteps := 1000000) (disch := first | exact dq | fail) only [go_sem, c0, decide_false]))
  | ((with_reducible refine Sp.go ?_ ?_) <;> intro h <;> (try (simp (maxSteps := 1000000) (disch := first | exact dq | fail) only [go_sem] at h)) <;> try (simp (maxSteps := 1000000) (disch := first | exact dq | fail) only [go_sem, h, c0, decide_false])) | fail)
      all_goals (try omega)
      refine ⟨j, ⟨⟨hi, hj⟩, hlo, hhi⟩, wk_by [0, 1] ?_⟩
      (simp (maxSteps := 1000000) (disch := first | exact dq | fail) only [go_sem])
  · rintro j ⟨⟨hi, hj⟩, hlo, hhi⟩
    obtain ⟨q1, q2, q3, q4, q5, q6, qL, qR, qX⟩ := hsm.part hmid h0 (s := j) ⟨hi, hj⟩ hlo hhi
    obtain ⟨e, he⟩ : ∃ e, e = mid + m - j := ⟨_, rfl⟩
    have ee : (mid : Int) + m - j = (e : Int) := by omega
    rw [← he] at q4 q5 q6 qL qR qX
    have hsw0 : Sw a b σ (rotF σ j m e) := by
      have := rot_sw (lo := a) (hi := b) (m := m) _ (m - j) (e - m) σ (Nat.le_refl _) (by omega) (by omega) (by omega)
      rwa [show m - (m - j) = j by omega, show m + (e - m) = e by omega] at this
    with_reducible refine aw_seq ?_
    with_reducible refine aw_region (aops_run ?_)
    (simp (maxSteps := 1000000) (disch := first | exact dq | fail) only [go_sem, ee])
    refine aw_cut ⟨220, sl [(0, .msl 0 0 n n), (1, .iv (.int .i64 a)), (2, .iv (.int .i64 m)), (3, .iv (.int .i64 b)), (4, .fn g [.mp 1 0]), (18, .iv (.int .i64 mid)), (20, .iv (.int .i64 j)), (24, .iv (.int .i64 e))], stM n (fun k => v (rotF σ j m e k)) T c, 2⟩ ?_ ?_
    · by_cases g1 : j < m
      · have k1 : (j : Int) < m := by omega
        by_cases g2 : m < e
        · have k2 : (m : Int) < e := by omega
          have hR := rotate_spec (g := g) (T := T) (c := c) (v := v) n j m e σ g1 g2 (by omega) hn
          (repeat' first
  | ((with_reducible first | refine Nx.go ?_ | refine rP ?_ | refine rR ?_ | refine And.intro ?_ ?_ | fail) <;> try (simp (maxSteps := 1000000) (disch := first | exact dq | fail) only [go_sem, k1, k2, decide_true]))
  | ((with_reducible refine Sp.go ?_ ?_) <;> intro h <;> (try (simp (maxSteps := 1000000) (disch := first | exact dq | fail) only [go_sem] at h)) <;> try (simp (maxSteps := 1000000) (disch := first | exact dq | fail) only [go_sem, h, k1, k2, decide_true])) | fail)
          all_goals (try omega)
          ((with_reducible refine left_callRs [0, 1] (hR) ?_ ?_); (· (simp (maxSteps := 1000000) (disch := first | exact dq | fail) only [go_sem])))
          rintro r M' ⟨κ, rfl, rfl, rfl, _⟩
          (simp (maxSteps := 1000000) (disch := first | exact dq | fail) only [go_sem])
          (repeat' first
  | ((with_reducible first | refine Nx.go ?_ | refine rP ?_ | refine rR ?_ | refine And.intro ?_ ?_ | fail) <;> try (simp (maxSteps := 1000000) (disch := first | exact dq | fail) only [go_sem]))
  | ((with_reducible refine Sp.go ?_ ?_) <;> intro h <;> (try (simp (maxSteps := 1000000) (disch := first | exact dq | fail) only [go_sem] at h)) <;> try (simp (maxSteps := 1000000) (disch := first | exact dq | fail) only [go_sem, h])) | fail)
          all_goals (try omega)
          refine wk_by [0, 1] ?_
          (simp (maxSteps := 1000000) (disch := first | exact dq | fail) only [go_sem])
        · have k2 : ¬ ((m : Int) < e) := by omega
          rw [rot_none σ (.inr (show m = e by omega)) (by omega) (by omega)]
          (repeat' first
  | ((with_reducible first | refine Nx.go ?_ | refine rP ?_ | refine rR ?_ | refine And.intro ?_ ?_ | fail) <;> try (simp (maxSteps := 1000000) (disch := first | exact dq | fail) only [go_sem, k1, k2, decide_true, decide_false]))
  | ((with_reducible refine Sp.go ?_ ?_) <;> intro h <;> (try (simp (maxSteps := 1000000) (disch := first | exact dq | fail) only [go_sem] at h)) <;> try (simp (maxSteps := 1000000) (disch := first | exact dq | fail) only [go_sem, h, k1, k2, decide_true, decide_false])) | fail)
          all_goals (try omega)
          refine wk_by [0, 1] ?_
          (simp (maxSteps := 1000000) (disch := first | exact dq | fail) only [go_sem])
      · have k1 : ¬ ((j : Int) < m) := by omega
        rw [rot_none σ (.inl (show j = m by omega)) (by omega) (by omega)]
        (repeat' first
  | ((with_reducible first | refine Nx.go ?_ | refine rP ?_ | refine rR ?_ | refine And.intro ?_ ?_ | fail) <;> try (simp (maxSteps := 1000000) (disch := first | exact dq | fail) only [go_sem, k1, decide_false]))
  | ((with_reducible refine Sp.go ?_ ?_) <;> intro h <;> (try (simp (maxSteps := 1000000) (disch := first | exact dq | fail) only [go_sem] at h)) <;> try (simp (maxSteps := 1000000) (disch := first | exact dq | fail) only [go_sem, h, k1, decide_false])) | fail)
        all_goals (try omega)
        refine wk_by [0, 1] ?_
        (simp (maxSteps := 1000000) (disch := first | exact dq | fail) only [go_sem])
    generalize rotF σ j m e = ρ0 at *
    refine aw_cutE (β := Nat → Nat) (fun τ => ⟨220, sl [(0, .msl 0 0 n n), (3, .iv (.int .i64 b)), (4, .fn g [.mp 1 0]), (18, .iv (.int .i64 mid)), (24, .iv (.int .i64 e))], stM n (fun k => v (τ k)) T c, 2⟩)
      (fun τ => Sw a mid ρ0 τ ∧ Srt (fun k => eK K N (τ k)) a mid) ?_ ?_
    · by_cases g1 : a < j
      · have k1 : (a : Int) < j := by omega
        by_cases g2 : j < mid
        · have k2 : (j : Int) < mid := by omega
          have hR := ih a j mid ρ0 (by omega) g1 g2 (by omega) qL
          (repeat' first
  | ((with_reducible first | refine Nx.go ?_ | refine rP ?_ | refine rR ?_ | refine And.intro ?_ ?_ | fail) <;> try (simp (maxSteps := 1000000) (disch := first | exact dq | fail) only [go_sem, k1, k2, decide_true]))
  | ((with_reducible refine Sp.go ?_ ?_) <;> intro h <;> (try (simp (maxSteps := 1000000) (disch := first | exact dq | fail) only [go_sem] at h)) <;> try (simp (maxSteps := 1000000) (disch := first | exact dq | fail) only [go_sem, h, k1, k2, decide_true])) | fail)
          all_goals (try omega)
          ((with_reducible refine left_callRs [0, 1] (hR) ?_ ?_); (· (simp (maxSteps := 1000000) (disch := first | exact dq | fail) only [go_sem])))
          rintro r M' ⟨κ, rfl, rfl, t1, t2⟩
          (simp (maxSteps := 1000000) (disch := first | exact dq | fail) only [go_sem])
          (repeat' first
  | ((with_reducible first | refine Nx.go ?_ | refine rP ?_ | refine rR ?_ | refine And.intro ?_ ?_ | fail) <;> try (simp (maxSteps := 1000000) (disch := first | exact dq | fail) only [go_sem]))
  | ((with_reducible refine Sp.go ?_ ?_) <;> intro h <;> (try (simp (maxSteps := 1000000) (disch := first | exact dq | fail) only [go_sem] at h)) <;> try (simp (maxSteps := 1000000) (disch := first | exact dq | fail) only [go_sem, h])) | fail)
          all_goals (try omega)
          refine ⟨κ, ⟨t1, t2⟩, wk_by [0, 1] ?_⟩
          (simp (maxSteps := 1000000) (disch := first | exact dq | fail) only [go_sem])
        · have k2 : ¬ ((j : Int) < mid) := by omega
          have hs := qL.l
          rw [show j = mid by omega] at hs
          (repeat' first
  | ((with_reducible first | refine Nx.go ?_ | refine rP ?_ | refine rR ?_ | refine And.intro ?_ ?_ | fail) <;> try (simp (maxSteps := 1000000) (disch := first | exact dq | fail) only [go_sem, k1, k2, decide_true, decide_false]))
  | ((with_reducible refine Sp.go ?_ ?_) <;> intro h <;> (try (simp (maxSteps := 1000000) (disch := first | exact dq | fail) only [go_sem] at h)) <;> try (simp (maxSteps := 1000000) (disch := first | exact dq | fail) only [go_sem, h, k1, k2, decide_true, decide_false])) | fail)
          all_goals (try omega)
          refine ⟨ρ0, ⟨.refl, hs⟩, wk_by [0, 1] ?_⟩
          (simp (maxSteps := 1000000) (disch := first | exact dq | fail) only [go_sem])
      · have k1 : ¬ ((a : Int) < j) := by omega
        have hs := qL.r
        rw [show j = a by omega] at hs
        (repeat' first
  | ((with_reducible first | refine Nx.go ?_ | refine rP ?_ | refine rR ?_ | refine And.intro ?_ ?_ | fail) <;> try (simp (maxSteps := 1000000) (disch := first | exact dq | fail) only [go_sem, k1, decide_false]))
  | ((with_reducible refine Sp.go ?_ ?_) <;> intro h <;> (try (simp (maxSteps := 1000000) (disch := first | exact dq | fail) only [go_sem] at h)) <;> try (simp (maxSteps := 1000000) (disch := first | exact dq | fail) only [go_sem, h, k1, decide_false])) | fail)
        all_goals (try omega)
        refine ⟨ρ0, ⟨.refl, hs⟩, wk_by [0, 1] ?_⟩
        (simp (maxSteps := 1000000) (disch := first | exact dq | fail) only [go_sem])
    rintro τ ⟨t1, t2⟩
    have qR2 := qR.congr (τ := τ) (fun k h1 h2 => t1.out (by omega))
    have tX : ∀ p q, a ≤ p → p < mid → mid ≤ q → q < b → eK K N (τ p) ≤ eK K N (τ q) := fun p q h1 h2 h3 h4 => by
      obtain ⟨p', hp', ep⟩ := t1.src ⟨h1, h2⟩
      rw [ep, t1.out (m := q) (by omega)]
      exact qX p' q hp'.1 hp'.2 h3 h4
    have tS := hsw0.trans (t1.mono (Nat.le_refl _) (by omega))
    by_cases g1 : mid < e
    · have k1 : (mid : Int) < e := by omega
      by_cases g2 : e < b
      · have k2 : (e : Int) < b := by omega
        have hR := ih mid e b τ (by omega) g1 g2 (by omega) qR2
        (repeat' first
  | ((with_reducible first | refine Nx.go ?_ | refine rP ?_ | refine rR ?_ | refine And.intro ?_ ?_ | fail) <;> try (simp (maxSteps := 1000000) (disch := first | exact dq | fail) only [go_sem, k1, k2, decide_true]))
  | ((with_reducible refine Sp.go ?_ ?_) <;> intro h <;> (try (simp (maxSteps := 1000000) (disch := first | exact dq | fail) only [go_sem] at h)) <;> try (simp (maxSteps := 1000000) (disch := first | exact dq | fail) only [go_sem, h, k1, k2, decide_true])) | fail)
        all_goals (try omega)
        ((with_reducible refine left_callRs [0, 1] (hR) ?_ ?_); (· (simp (maxSteps := 1000000) (disch := first | exact dq | fail) only [go_sem])))
        rintro r M' ⟨κ, rfl, rfl, u1, u2⟩
        (simp (maxSteps := 1000000) (disch := first | exact dq | fail) only [go_sem])
        (repeat' first
  | ((with_reducible first | refine Nx.go ?_ | refine rP ?_ | refine rR ?_ | refine And.intro ?_ ?_ | fail) <;> try (simp (maxSteps := 1000000) (disch := first | exact dq | fail) only [go_sem]))
  | ((with_reducible refine Sp.go ?_ ?_) <;> intro h <;> (try (simp (maxSteps := 1000000) (disch := first | exact dq | fail) only [go_sem] at h)) <;> try (simp (maxSteps := 1000000) (disch := first | exact dq | fail) only [go_sem, h])) | fail)
        all_goals (try omega)
        refine ⟨_, _, ⟨κ, rfl, rfl, tS.trans (u1.mono (by omega) (Nat.le_refl _)), ?_⟩, fin_k [0, 1] ?_⟩
        · refine Srt.join (m := mid) (t2.congr (fun k h1 h2 => by rw [u1.out (by omega)])) u2 (fun p q h1 h2 h3 h4 => ?_)
          obtain ⟨q', hq', eq⟩ := u1.src ⟨h3, h4⟩
          rw [eq, u1.out (m := p) (by omega)]
          exact tX p q' h1 h2 hq'.1 hq'.2
        · (simp (maxSteps := 1000000) (disch := first | exact dq | fail) only [go_sem])
      · have k2 : ¬ ((e : Int) < b) := by omega
        have hs := qR2.l
        rw [show e = b by omega] at hs
        (repeat' first
  | ((with_reducible first | refine Nx.go ?_ | refine rP ?_ | refine rR ?_ | refine And.intro ?_ ?_ | fail) <;> try (simp (maxSteps := 1000000) (disch := first | exact dq | fail) only [go_sem, k1, k2, decide_true, decide_false]))
  | ((with_reducible refine Sp.go ?_ ?_) <;> intro h <;> (try (simp (maxSteps := 1000000) (disch := first | exact dq | fail) only [go_sem] at h)) <;> try (simp (maxSteps := 1000000) (disch := first | exact dq | fail) only [go_sem, h, k1, k2, decide_true, decide_false])) | fail)
        all_goals (try omega)
        refine ⟨_, _, ⟨τ, rfl, rfl, tS, Srt.join t2 hs tX⟩, fin_k [0, 1] ?_⟩
        (simp (maxSteps := 1000000) (disch := first | exact dq | fail) only [go_sem])
    · have k1 : ¬ ((mid : Int) < e) := by omega
      have hs := qR2.r
      rw [show e = mid by omega] at hs
      (repeat' first
  | ((with_reducible first | refine Nx.go ?_ | refine rP ?_ | refine rR ?_ | refine And.intro ?_ ?_ | fail) <;> try (simp (maxSteps := 1000000) (disch := first | exact dq | fail) only [go_sem, k1, decide_false]))
  | ((with_reducible refine Sp.go ?_ ?_) <;> intro h <;> (try (simp (maxSteps := 1000000) (disch := first | exact dq | fail) only [go_sem] at h)) <;> try (simp (maxSteps := 1000000) (disch := first | exact dq | fail) only [go_sem, h, k1, decide_false])) | fail)
      all_goals (try omega)
      refine ⟨_, _, ⟨τ, rfl, rfl, tS, Srt.join t2 hs tX⟩, fin_k [0, 1] ?_⟩
      (simp (maxSteps := 1000000) (disch := first | exact dq | fail) only [go_sem])
end
end Go.Proofs.YtpjncojljamacaaGreat.AM
