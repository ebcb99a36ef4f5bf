
/- slices.SortStableFunc of a row of numbers: the whole. No condition but lengths that fit. -/
import Derived.Test.YtpjncojljamacaaGreatW3
import Derived.Test.YtpjncojljamacaaGreatQC
set_option linter.unusedVariables false
set_option linter.unusedSimpArgs false
set_option maxRecDepth 20000
namespace Go.Proofs.YtpjncojljamacaaGreat.AM
open Go Go.RowKit

def Blk (K : Nat → Int) (N : Nat) (τ : Nat → Nat) (lo hi : Nat) : Prop := Srt (fun k => eK K N (τ k)) lo hi ∧ ∀ p, lo ≤ p → p < hi → lo ≤ τ p ∧ τ p < hi
theorem Blk.congr {K : Nat → Int} {N : Nat} {σ τ : Nat → Nat} {lo hi : Nat} (h : Blk K N σ lo hi) (e : ∀ k, lo ≤ k → k < hi → τ k = σ k) : Blk K N τ lo hi :=
  ⟨h.1.congr (fun k h1 h2 => by rw [e k h1 h2]), fun p h1 h2 => by rw [e p h1 h2]; exact h.2 p h1 h2⟩
theorem Blk.merge {K : Nat → Int} {N : Nat} {σ : Nat → Nat} {a m b : Nat} (h1 : Blk K N σ a m) (h2 : Blk K N σ m b) (ham : a ≤ m) (hmb : m ≤ b) (hb : b ≤ N) : SM K N σ a m b :=
  ⟨ham, hmb, fun k g1 g2 => by
    by_cases g : k < m
    · have := h1.2 k g1 g; omega
    · have := h2.2 k (by omega) g2; omega, h1.1, h2.1, fun p q g1 g2 g3 g4 => by
    have := h1.2 p g1 g2
    have := h2.2 q g3 g4
    omega⟩
theorem Blk.done {K : Nat → Int} {N : Nat} {σ τ : Nat → Nat} {a m b : Nat} (h1 : Blk K N σ a m) (h2 : Blk K N σ m b) (ham : a ≤ m) (hmb : m ≤ b) (hsw : Sw a b σ τ) (hs : Srt (fun k => eK K N (τ k)) a b) : Blk K N τ a b :=
  ⟨hs, hsw.all (p := fun x => a ≤ x ∧ x < b) (fun k g1 g2 => by
    by_cases g : k < m
    · have := h1.2 k g1 g; omega
    · have := h2.2 k (by omega) g2; omega)⟩
def Blks (K : Nat → Int) (n : Nat) (τ : Nat → Nat) (bs from_ : Nat) : Prop := ∀ lo, bs ∣ lo → from_ ≤ lo → lo < n → Blk K n τ lo (min (lo + bs) n)
def BlksTo (K : Nat → Int) (n : Nat) (τ : Nat → Nat) (bs to : Nat) : Prop := ∀ lo, bs ∣ lo → lo < to → Blk K n τ lo (lo + bs)
theorem dvd_gap {bs a lo : Nat} (h1 : bs ∣ a) (h2 : bs ∣ lo) (h3 : a ≤ lo) (h4 : lo < a + bs) : lo = a := by
  have := Nat.eq_zero_of_dvd_of_lt ((Nat.dvd_sub h2 h1)) (by omega)
  omega
theorem dvd_next {bs a lo : Nat} (h1 : bs ∣ lo) (h2 : bs ∣ a) (h3 : lo < a) : lo + bs ≤ a := by
  have := Nat.le_of_dvd (by omega) (Nat.dvd_sub h2 h1)
  omega
section
variable {g : Nat} {T : TypeId} {c : IV} {cf : Int → Int → Int} {v : Nat → Int} {K : Nat → Int}
set_option maxHeartbeats 8000000 in
theorem stable_specC (hF : CmpF g T c cf v K) (n : Nat) (hn : n ≤ 500000) :
    RCalls Tryz.prog 64 [.msl 0 0 n n, .iv (.int .i64 n), .fn g [.mp 1 0]] (stM n v T c) (StS n v T c fun τ => Sw 0 n (fun k => k) τ ∧ Srt (fun k => eK K n (τ k)) 0 n) := by
  refine RCalls.of_aw Tryz.func64 rfl (by unfold Callable; kernel_rfl) (by kernel_rfl) (by simp [Tryz.ntmps64]) (by rintro _ _ ⟨_, rfl, _⟩; exact Nat.le_refl _) ?_; rw [Tryz.ntmps64, Tryz.results64]; (simp (maxSteps := 1000000) (disch := first | exact dq | fail) only [go_sem])
  (repeat' first
  | ((with_reducible first | refine Nx.go ?_ | refine rP ?_ | refine rR ?_ | refine And.intro ?_ ?_ | fail) <;> try (simp (maxSteps := 1000000) (disch := first | exact dq | fail) only [go_sem]))
  | ((with_reducible refine Sp.go ?_ ?_) <;> intro h <;> (try (simp (maxSteps := 1000000) (disch := first | exact dq | fail) only [go_sem] at h)) <;> try (simp (maxSteps := 1000000) (disch := first | exact dq | fail) only [go_sem, h])) | fail)
  all_goals (try omega)
  refine aw_loop (α := Nat × (Nat → Nat)) (fun x => ⟨63, sl [(0, .msl 0 0 n n), (1, .iv (.int .i64 n)), (2, .fn g [.mp 1 0]), (6, .iv (.int .i64 20)), (7, .iv (.int .i64 x.1)), (8, .iv (.int .i64 ((x.1 : Int) + 20)))], stM n (fun k => v (x.2 k)) T c, 2⟩)
    (fun x => 20 ∣ x.1 ∧ x.1 ≤ n ∧ Sw 0 n (fun k => k) x.2 ∧ BlksTo K n x.2 20 x.1 ∧ ∀ k, x.1 ≤ k → x.2 k = k) (fun x => n - x.1) (0, fun k => k) (wk_by [0, 1] ?_) ⟨Nat.dvd_zero _, Nat.zero_le _, .refl, fun lo _ h => by dsimp only at h; omega, fun k _ => rfl⟩ ?_
  · (simp (maxSteps := 1000000) (disch := first | exact dq | fail) only [go_sem])
  rintro ⟨a, τ⟩ ⟨h1, h2, h3, h4, h5⟩
  dsimp only at h1 h2 h3 h4 h5
  by_cases hlt : a + 20 ≤ n
  · have c1 : (a : Int) + 20 ≤ n := by omega
    have e1 : (a : Int) + 20 = ((a + 20 : Nat) : Int) := by omega
    have hI := insertionC_spec hF n a (a + 20) n τ (by omega) hlt (by omega) (fun k g1 g2 => by rw [h5 k g1]; omega) (fun p q g1 g2 g3 => by rw [h5 p g1, h5 q (by omega)]; exact g2)
    rw [← e1] at hI
    (repeat' first
  | ((with_reducible first | refine Nx.go ?_ | refine rP ?_ | refine rR ?_ | refine And.intro ?_ ?_ | fail) <;> try (simp (maxSteps := 1000000) (disch := first | exact dq | fail) only [go_sem, c1, decide_true]))
  | ((with_reducible refine Sp.go ?_ ?_) <;> intro h <;> (try (simp (maxSteps := 1000000) (disch := first | exact dq | fail) only [go_sem] at h)) <;> try (simp (maxSteps := 1000000) (disch := first | exact dq | fail) only [go_sem, h, c1, decide_true])) | fail)
    all_goals (try omega)
    ((with_reducible refine left_callRs [0, 1] (hI) ?_ ?_); (· (simp (maxSteps := 1000000) (disch := first | exact dq | fail) only [go_sem])))
    rintro r M' ⟨κ, rfl, rfl, hs1, hs2⟩
    (simp (maxSteps := 1000000) (disch := first | exact dq | fail) only [go_sem])
    (repeat' first
  | ((with_reducible first | refine Nx.go ?_ | refine rP ?_ | refine rR ?_ | refine And.intro ?_ ?_ | fail) <;> try (simp (maxSteps := 1000000) (disch := first | exact dq | fail) only [go_sem]))
  | ((with_reducible refine Sp.go ?_ ?_) <;> intro h <;> (try (simp (maxSteps := 1000000) (disch := first | exact dq | fail) only [go_sem] at h)) <;> try (simp (maxSteps := 1000000) (disch := first | exact dq | fail) only [go_sem, h])) | fail)
    all_goals (try omega)
    refine ⟨(a + 20, κ), ⟨Nat.dvd_add h1 (Nat.dvd_refl _), hlt, h3.trans (hs1.mono (Nat.zero_le _) hlt), fun lo g1 g2 => ?_, fun k g1 => ?_⟩, wk_by [0, 1] ?_, by dsimp only; omega⟩
    · dsimp only at g2 ⊢
      by_cases g : lo < a
      · have hd := dvd_next g1 h1 g
        exact (h4 lo g1 g).congr (fun k k1 k2 => hs1.out (by omega))
      · obtain rfl := dvd_gap h1 g1 (by omega) g2
        exact ⟨hs2, hs1.all (p := fun x => lo ≤ x ∧ x < lo + 20) (fun k k1 k2 => by rw [h5 k k1]; exact ⟨k1, k2⟩)⟩
    · dsimp only at g1 ⊢
      rw [hs1.out (by omega), h5 k (by omega)]
    · (simp (maxSteps := 1000000) (disch := first | exact dq | fail) only [go_sem])
  · have c1 : ¬ ((a : Int) + 20 ≤ n) := by omega
    have hI := insertionC_spec hF n a n n τ h2 (Nat.le_refl _) (by omega) (fun k g1 g2 => by rw [h5 k g1]; omega) (fun p q g1 g2 g3 => by rw [h5 p g1, h5 q (by omega)]; exact g2)
    (repeat' first
  | ((with_reducible first | refine Nx.go ?_ | refine rP ?_ | refine rR ?_ | refine And.intro ?_ ?_ | fail) <;> try (simp (maxSteps := 1000000) (disch := first | exact dq | fail) only [go_sem, c1, decide_false]))
  | ((with_reducible refine Sp.go ?_ ?_) <;> intro h <;> (try (simp (maxSteps := 1000000) (disch := first | exact dq | fail) only [go_sem] at h)) <;> try (simp (maxSteps := 1000000) (disch := first | exact dq | fail) only [go_sem, h, c1, decide_false])) | fail)
    all_goals (try omega)
    ((with_reducible refine left_callRs [0, 1] (hI) ?_ ?_); (· (simp (maxSteps := 1000000) (disch := first | exact dq | fail) only [go_sem])))
    rintro r M' ⟨κ, rfl, rfl, hs1, hs2⟩
    (simp (maxSteps := 1000000) (disch := first | exact dq | fail) only [go_sem])
    (repeat' first
  | ((with_reducible first | refine Nx.go ?_ | refine rP ?_ | refine rR ?_ | refine And.intro ?_ ?_ | fail) <;> try (simp (maxSteps := 1000000) (disch := first | exact dq | fail) only [go_sem]))
  | ((with_reducible refine Sp.go ?_ ?_) <;> intro h <;> (try (simp (maxSteps := 1000000) (disch := first | exact dq | fail) only [go_sem] at h)) <;> try (simp (maxSteps := 1000000) (disch := first | exact dq | fail) only [go_sem, h])) | fail)
    all_goals (try omega)
    have hs0 : Sw 0 n (fun k => k) κ := h3.trans (hs1.mono (Nat.zero_le _) (Nat.le_refl _))
    have hb0 : Blks K n κ 20 0 := fun lo g1 _ g2 => by
      by_cases g : lo < a
      · have hd := dvd_next g1 h1 g
        rw [Nat.min_eq_left (by omega)]
        exact (h4 lo g1 g).congr (fun k k1 k2 => hs1.out (by omega))
      · by_cases g3 : lo = a
        · subst g3
          rw [Nat.min_eq_right (by omega)]
          exact ⟨hs2, hs1.all (p := fun x => lo ≤ x ∧ x < n) (fun k k1 k2 => by rw [h5 k k1]; exact ⟨k1, k2⟩)⟩
        · have hd := dvd_next h1 g1 (by omega)
          omega
    clear h1 h2 h3 h4 h5 hs1 hs2 hI c1
    generalize κ = τ0 at *
    refine aw_loop (α := Nat × (Nat → Nat)) (fun x => ⟨63, sl [(0, .msl 0 0 n n), (1, .iv (.int .i64 n)), (2, .fn g [.mp 1 0]), (6, .iv (.int .i64 x.1))], stM n (fun k => v (x.2 k)) T c, 2⟩)
      (fun x => 20 ≤ x.1 ∧ x.1 ≤ 1000000 ∧ Sw 0 n (fun k => k) x.2 ∧ Blks K n x.2 x.1 0) (fun x => n - x.1) (20, τ0) (wk_by [0, 1] ?_) ⟨Nat.le_refl _, by dsimp only; omega, hs0, hb0⟩ ?_
    · (simp (maxSteps := 1000000) (disch := first | exact dq | fail) only [go_sem])
    rintro ⟨bs, τ⟩ ⟨h1, h2, h3, h4⟩
    dsimp only at h1 h2 h3 h4
    by_cases hlt : bs < n
    · have c0 : (bs : Int) < n := by omega
      (repeat' first
  | ((with_reducible first | refine Nx.go ?_ | refine rP ?_ | refine rR ?_ | refine And.intro ?_ ?_ | fail) <;> try (simp (maxSteps := 1000000) (disch := first | exact dq | fail) only [go_sem, c0, decide_true]))
  | ((with_reducible refine Sp.go ?_ ?_) <;> intro h <;> (try (simp (maxSteps := 1000000) (disch := first | exact dq | fail) only [go_sem] at h)) <;> try (simp (maxSteps := 1000000) (disch := first | exact dq | fail) only [go_sem, h, c0, decide_true])) | fail)
      all_goals (try omega)
      have hdd : bs ∣ 2 * bs := ⟨2, by omega⟩
      refine aw_loop (α := Nat × (Nat → Nat)) (fun x => ⟨63, sl [(0, .msl 0 0 n n), (1, .iv (.int .i64 n)), (2, .fn g [.mp 1 0]), (6, .iv (.int .i64 bs)), (7, .iv (.int .i64 x.1)), (8, .iv (.int .i64 ((x.1 : Int) + 2 * bs)))], stM n (fun k => v (x.2 k)) T c, 2⟩)
        (fun x => (2 * bs) ∣ x.1 ∧ x.1 ≤ n ∧ Sw 0 n (fun k => k) x.2 ∧ BlksTo K n x.2 (2 * bs) x.1 ∧ Blks K n x.2 bs x.1) (fun x => n - x.1) (0, τ) (wk_by [0, 1] ?_) ⟨Nat.dvd_zero _, Nat.zero_le _, h3, fun lo _ h => by dsimp only at h; omega, h4⟩ ?_
      · (simp (maxSteps := 1000000) (disch := first | exact dq | fail) only [go_sem])
      rintro ⟨a, κ⟩ ⟨a1, a2, a3, a4, a5⟩
      dsimp only at a1 a2 a3 a4 a5
      have hba : bs ∣ a := Nat.dvd_trans hdd a1
      by_cases hle : a + 2 * bs ≤ n
      · have c1 : (a : Int) + 2 * bs ≤ n := by omega
        have b1 := a5 a hba (Nat.le_refl _) (by omega)
        have b2 := a5 (a + bs) (Nat.dvd_add hba (Nat.dvd_refl _)) (by omega) (by omega)
        rw [Nat.min_eq_left (by omega)] at b1 b2
        rw [show a + bs + bs = a + 2 * bs by omega] at b2
        have hM := symMerge_spec hF n n (by omega) (2 * bs) a (a + bs) (a + 2 * bs) κ (by omega) (by omega) (by omega) hle (b1.merge b2 (by omega) (by omega) hle)
        rw [show ((a + bs : Nat) : Int) = (a : Int) + bs by omega, show ((a + 2 * bs : Nat) : Int) = (a : Int) + 2 * bs by omega] at hM
        (repeat' first
  | ((with_reducible first | refine Nx.go ?_ | refine rP ?_ | refine rR ?_ | refine And.intro ?_ ?_ | fail) <;> try (simp (maxSteps := 1000000) (disch := first | exact dq | fail) only [go_sem, c1, decide_true]))
  | ((with_reducible refine Sp.go ?_ ?_) <;> intro h <;> (try (simp (maxSteps := 1000000) (disch := first | exact dq | fail) only [go_sem] at h)) <;> try (simp (maxSteps := 1000000) (disch := first | exact dq | fail) only [go_sem, h, c1, decide_true])) | fail)
        all_goals (try omega)
        ((with_reducible refine left_callRs [0, 1] (hM) ?_ ?_); (· (simp (maxSteps := 1000000) (disch := first | exact dq | fail) only [go_sem])))
        rintro r M' ⟨μ, rfl, rfl, hs1, hs2⟩
        (simp (maxSteps := 1000000) (disch := first | exact dq | fail) only [go_sem])
        (repeat' first
  | ((with_reducible first | refine Nx.go ?_ | refine rP ?_ | refine rR ?_ | refine And.intro ?_ ?_ | fail) <;> try (simp (maxSteps := 1000000) (disch := first | exact dq | fail) only [go_sem]))
  | ((with_reducible refine Sp.go ?_ ?_) <;> intro h <;> (try (simp (maxSteps := 1000000) (disch := first | exact dq | fail) only [go_sem] at h)) <;> try (simp (maxSteps := 1000000) (disch := first | exact dq | fail) only [go_sem, h])) | fail)
        all_goals (try omega)
        have bd := Blk.done b1 b2 (by omega) (by omega) hs1 hs2
        refine ⟨(a + 2 * bs, μ), ⟨Nat.dvd_add a1 (Nat.dvd_refl _), hle, a3.trans (hs1.mono (Nat.zero_le _) hle), fun lo g1 g2 => ?_, fun lo g1 g2 g3 => ?_⟩, wk_by [0, 1] ?_, by dsimp only; omega⟩
        · dsimp only at g2 ⊢
          by_cases g : lo < a
          · have hd := dvd_next g1 a1 g
            exact (a4 lo g1 g).congr (fun k k1 k2 => hs1.out (by omega))
          · have e := dvd_gap a1 g1 (by omega) g2
            subst e
            exact bd
        · dsimp only at g2 ⊢
          exact (a5 lo g1 (by omega) g3).congr (fun k k1 k2 => hs1.out (by omega))
        · (simp (maxSteps := 1000000) (disch := first | exact dq | fail) only [go_sem])
          exact ⟨by congr 2, by congr 2⟩
      · have c1 : ¬ ((a : Int) + 2 * bs ≤ n) := by omega
        by_cases hm : a + bs < n
        · have c2 : (a : Int) + bs < n := by omega
          have b1 := a5 a hba (Nat.le_refl _) (by omega)
          have b2 := a5 (a + bs) (Nat.dvd_add hba (Nat.dvd_refl _)) (by omega) (by omega)
          rw [Nat.min_eq_left (by omega)] at b1
          rw [Nat.min_eq_right (by omega)] at b2
          have hM := symMerge_spec hF n n (by omega) (2 * bs) a (a + bs) n κ (by omega) (by omega) (by omega) (Nat.le_refl _) (b1.merge b2 (by omega) (by omega) (Nat.le_refl _))
          rw [show ((a + bs : Nat) : Int) = (a : Int) + bs by omega] at hM
          (repeat' first
  | ((with_reducible first | refine Nx.go ?_ | refine rP ?_ | refine rR ?_ | refine And.intro ?_ ?_ | fail) <;> try (simp (maxSteps := 1000000) (disch := first | exact dq | fail) only [go_sem, c1, c2, decide_true, decide_false]))
  | ((with_reducible refine Sp.go ?_ ?_) <;> intro h <;> (try (simp (maxSteps := 1000000) (disch := first | exact dq | fail) only [go_sem] at h)) <;> try (simp (maxSteps := 1000000) (disch := first | exact dq | fail) only [go_sem, h, c1, c2, decide_true, decide_false])) | fail)
          all_goals (try omega)
          ((with_reducible refine left_callRs [0, 1] (hM) ?_ ?_); (· (simp (maxSteps := 1000000) (disch := first | exact dq | fail) only [go_sem])))
          rintro r M' ⟨μ, rfl, rfl, hs1, hs2⟩
          (simp (maxSteps := 1000000) (disch := first | exact dq | fail) only [go_sem])
          (repeat' first
  | ((with_reducible first | refine Nx.go ?_ | refine rP ?_ | refine rR ?_ | refine And.intro ?_ ?_ | fail) <;> try (simp (maxSteps := 1000000) (disch := first | exact dq | fail) only [go_sem]))
  | ((with_reducible refine Sp.go ?_ ?_) <;> intro h <;> (try (simp (maxSteps := 1000000) (disch := first | exact dq | fail) only [go_sem] at h)) <;> try (simp (maxSteps := 1000000) (disch := first | exact dq | fail) only [go_sem, h])) | fail)
          all_goals (try omega)
          have bd := Blk.done b1 b2 (by omega) (by omega) hs1 hs2
          refine ⟨(2 * bs, μ), ⟨by dsimp only; omega, by dsimp only; omega, a3.trans (hs1.mono (Nat.zero_le _) (Nat.le_refl _)), fun lo g1 _ g2 => ?_⟩, wk_by [0, 1] ?_, by dsimp only; omega⟩
          · by_cases g : lo < a
            · have hd := dvd_next g1 a1 g
              rw [Nat.min_eq_left (by omega)]
              exact (a4 lo g1 g).congr (fun k k1 k2 => hs1.out (by omega))
            · by_cases g3 : lo = a
              · subst g3
                rw [Nat.min_eq_right (by omega)]
                exact bd
              · have hd := dvd_next a1 g1 (by omega)
                omega
          · (simp (maxSteps := 1000000) (disch := first | exact dq | fail) only [go_sem])
            congr 2; omega
        · have c2 : ¬ ((a : Int) + bs < n) := by omega
          (repeat' first
  | ((with_reducible first | refine Nx.go ?_ | refine rP ?_ | refine rR ?_ | refine And.intro ?_ ?_ | fail) <;> try (simp (maxSteps := 1000000) (disch := first | exact dq | fail) only [go_sem, c1, c2, decide_false]))
  | ((with_reducible refine Sp.go ?_ ?_) <;> intro h <;> (try (simp (maxSteps := 1000000) (disch := first | exact dq | fail) only [go_sem] at h)) <;> try (simp (maxSteps := 1000000) (disch := first | exact dq | fail) only [go_sem, h, c1, c2, decide_false])) | fail)
          all_goals (try omega)
          refine ⟨(2 * bs, κ), ⟨by dsimp only; omega, by dsimp only; omega, a3, fun lo g1 _ g2 => ?_⟩, wk_by [0, 1] ?_, by dsimp only; omega⟩
          · by_cases g : lo < a
            · have hd := dvd_next g1 a1 g
              rw [Nat.min_eq_left (by omega)]
              exact a4 lo g1 g
            · by_cases g3 : lo = a
              · subst g3
                have b1 := a5 lo hba (Nat.le_refl _) g2
                rw [Nat.min_eq_right (by omega)] at b1 ⊢
                exact b1
              · have hd := dvd_next a1 g1 (by omega)
                omega
          · (simp (maxSteps := 1000000) (disch := first | exact dq | fail) only [go_sem])
            congr 2; omega
    · have c0 : ¬ ((bs : Int) < n) := by omega
      have hfin : Srt (fun k => eK K n (τ k)) 0 n := by
        by_cases h0 : n = 0
        · subst h0; exact Srt.small _ (by omega)
        · have := (h4 0 (Nat.dvd_zero _) (Nat.le_refl _) (by omega)).1
          rwa [Nat.zero_add, Nat.min_eq_right (by omega)] at this
      (repeat' first
  | ((with_reducible first | refine Nx.go ?_ | refine rP ?_ | refine rR ?_ | refine And.intro ?_ ?_ | fail) <;> try (simp (maxSteps := 1000000) (disch := first | exact dq | fail) only [go_sem, c0, decide_false]))
  | ((with_reducible refine Sp.go ?_ ?_) <;> intro h <;> (try (simp (maxSteps := 1000000) (disch := first | exact dq | fail) only [go_sem] at h)) <;> try (simp (maxSteps := 1000000) (disch := first | exact dq | fail) only [go_sem, h, c0, decide_false])) | fail)
      all_goals (try omega)
      refine ⟨_, _, ⟨τ, rfl, rfl, h3, hfin⟩, fin_k [0, 1] ?_⟩
      (simp (maxSteps := 1000000) (disch := first | exact dq | fail) only [go_sem])
theorem SortStable_spec (hF : CmpF g T c cf v K) (n : Nat) (hn : n ≤ 500000) :
    RCalls Tryz.prog 39 [.msl 0 0 n n, .fn g [.mp 1 0]] (stM n v T c) (StS n v T c fun τ => Sw 0 n (fun k => k) τ ∧ Srt (fun k => eK K n (τ k)) 0 n) := by
  have hS := stable_specC hF n hn
  have hl := rowF_len n v
  refine RCalls.of_aw Tryz.func39 rfl (by unfold Callable; kernel_rfl) (by kernel_rfl) (by simp [Tryz.ntmps39]) (by rintro _ _ ⟨_, rfl, _⟩; exact Nat.le_refl _) ?_; rw [Tryz.ntmps39, Tryz.results39]; (simp (disch := first | exact dq | fail) only [go_sem])
  (repeat' first
  | ((with_reducible first | refine Nx.go ?_ | refine rP ?_ | refine rR ?_ | refine And.intro ?_ ?_ | fail) <;> try (simp (disch := first | exact dq | fail) only [go_sem, hl]))
  | ((with_reducible refine Sp.go ?_ ?_) <;> intro h <;> (try (simp (disch := first | exact dq | fail) only [go_sem] at h)) <;> try (simp (disch := first | exact dq | fail) only [go_sem, h, hl])) | fail)
  all_goals (try omega)
  ((with_reducible refine left_callRs [0, 1] (hS) ?_ ?_); (· (simp (disch := first | exact dq | fail) only [go_sem])))
  rintro r M' ⟨μ, rfl, rfl, hs⟩
  (simp (disch := first | exact dq | fail) only [go_sem])
  (repeat' first
  | ((with_reducible first | refine Nx.go ?_ | refine rP ?_ | refine rR ?_ | refine And.intro ?_ ?_ | fail) <;> try (simp (disch := first | exact dq | fail) only [go_sem]))
  | ((with_reducible refine Sp.go ?_ ?_) <;> intro h <;> (try (simp (disch := first | exact dq | fail) only [go_sem] at h)) <;> try (simp (disch := first | exact dq | fail) only [go_sem, h])) | fail)
  all_goals (try omega)
  refine ⟨_, _, ⟨μ, rfl, rfl, hs⟩, fin_k [0, 1] ?_⟩
  (simp (disch := first | exact dq | fail) only [go_sem])
end
end Go.Proofs.YtpjncojljamacaaGreat.AM
