
/- slices.Sort: partitions. No condition but lengths that fit. slices.Sort: partitionEqual. No condition but lengths that fit. slices.Sort: partialInsertionSort. No condition but lengths that fit. slices.Sort: pdqsort. No condition but lengths that fit. slices.Sort, Compact, BinarySearch. No condition but lengths that fit. -/
import Derived.Test.YtnijpeeehnnipaaQA

set_option linter.unusedVariables false
set_option linter.unusedSimpArgs false
set_option maxRecDepth 20000
namespace Go.Proofs.Ytnijpeeehnnipaa.AM
open Go Go.RowKit

structure PtI (L : Int → Prop) (f g : Nat → Int) (a b i j : Nat) (p : Int) : Prop where
  i0 : a + 1 ≤ i
  ij : i ≤ j
  jb : j ≤ b
  sw : Sw a b f g
  ga : g a = p
  lo : ∀ m, a + 1 ≤ m → m < i → L (g m)
  hi : ∀ m, j ≤ m → m < b → ¬ L (g m)
theorem PtI.start {L : Int → Prop} {f : Nat → Int} {a b k : Nat} (hk : a ≤ k ∧ k < b) : PtI L f (swp f a k) a b (a + 1) b (f k) :=
  ⟨Nat.le_refl _, by omega, Nat.le_refl _, Sw.refl.swap _ _ (by omega) hk, swp_i _ _ _, fun m h1 h2 => by omega, fun m h1 h2 => by omega⟩
theorem PtI.inc {L : Int → Prop} {f g : Nat → Int} {a b i j : Nat} {p : Int} (h : PtI L f g a b i j p) (hij : i < j) (hl : L (g i)) : PtI L f g a b (i + 1) j p :=
  ⟨by have := h.i0; omega, hij, h.jb, h.sw, h.ga, fun m h1 h2 => by
    by_cases e : m = i
    · rw [e]; exact hl
    · exact h.lo m h1 (by omega), h.hi⟩
theorem PtI.dec {L : Int → Prop} {f g : Nat → Int} {a b i j : Nat} {p : Int} (h : PtI L f g a b i j p) (hij : i < j) (hl : ¬ L (g (j - 1))) : PtI L f g a b i (j - 1) p :=
  ⟨h.i0, by omega, by have := h.jb; omega, h.sw, h.ga, h.lo, fun m h1 h2 => by
    by_cases e : m = j - 1
    · rw [e]; exact hl
    · exact h.hi m (by omega) h2⟩
theorem PtI.swap {L : Int → Prop} {f g : Nat → Int} {a b i j : Nat} {p : Int} (h : PtI L f g a b i j p) (hij : i < j) (h1 : ¬ L (g i)) (h2 : L (g (j - 1))) : i + 1 ≤ j - 1 ∧ PtI L f (swp g i (j - 1)) a b (i + 1) (j - 1) p := by
  have hne : i ≠ j - 1 := fun e => h1 (e ▸ h2)
  have h0 := h.i0
  have hb := h.jb
  refine ⟨by omega, by omega, by omega, by omega, h.sw.swap _ _ (by omega) (by omega), by rw [swp_ne _ (by omega) (by omega)]; exact h.ga, fun m h3 h4 => ?_, fun m h3 h4 => ?_⟩
  · by_cases e : m = i
    · subst e; rw [swp_i]; exact h2
    · rw [swp_ne _ e (by omega)]; exact h.lo m h3 (by omega)
  · by_cases e : m = j - 1
    · subst e; rw [swp_j]; exact h1
    · rw [swp_ne _ (by omega) e]; exact h.hi m (by omega) h4
theorem PtI.done {L : Int → Prop} {f g : Nat → Int} {a b i j : Nat} {p : Int} (h : PtI L f g a b i j p) (hij : i = j) (hLp : ∀ x, L x ↔ x < p) :
    Sw a b f (swp g (j - 1) a) ∧ (∀ q, a ≤ q → q < j - 1 → swp g (j - 1) a q < swp g (j - 1) a (j - 1)) ∧ (∀ q, j - 1 < q → q < b → swp g (j - 1) a (j - 1) ≤ swp g (j - 1) a q) := by
  have h0 := h.i0
  have hb := h.jb
  refine ⟨h.sw.swap _ _ (by omega) (by omega), fun q h1 h2 => ?_, fun q h1 h2 => ?_⟩
  · rw [swp_i, h.ga]
    by_cases e : q = a
    · subst e; rw [swp_j]; exact (hLp _).1 (h.lo (j - 1) (by omega) (by omega))
    · rw [swp_ne _ (by omega) e]; exact (hLp _).1 (h.lo q (by omega) (by omega))
  · rw [swp_i, h.ga, swp_ne _ (by omega) (by omega)]
    have := h.hi q (by omega) h2
    rw [hLp] at this; omega

set_option maxHeartbeats 4000000 in
theorem partition_spec (n a b k : Nat) (f : Nat → Int) (hk : a ≤ k ∧ k < b) (hb : b ≤ n) (hn : n ≤ 1000000) :
    RCalls Try.prog 89 [.msl 0 0 n n, .iv (.int .i64 a), .iv (.int .i64 b), .iv (.int .i64 k)] (rwM n f)
      (fun r M' => ∃ g, M' = rwM n g ∧ ∃ (m : Nat) (v : Bool), r = .tup [.iv (.int .i64 m), .iv (.bool v)] ∧ (a ≤ m ∧ m < b) ∧ Sw a b f g ∧ (∀ q, a ≤ q → q < m → g q < g m) ∧ (∀ q, m < q → q < b → g m ≤ g q)) := by
  have hlf := rowF_len n f
  have gk := rowF_get f (show k < n by omega)
  have ga := rowF_get f (show a < n by omega)
  have hs0 := swp_row n f a k
  have hr0 := swp_get f (i := a) (show k < n by omega)
  have eb : ((b : Int) - 1) = ((b - 1 : Nat) : Int) := by omega
  refine RCalls.of_aw Try.func89 rfl (by unfold Callable; kernel_rfl) (by kernel_rfl) (by simp [Try.ntmps89]) (by rintro _ _ ⟨_, rfl, _⟩; exact Nat.le_refl _) ?_; rw [Try.ntmps89, Try.results89]; (simp (maxSteps := 1000000) (disch := first | exact dq | fail) only [go_sem])
  (repeat' (with_reducible first | refine Nx.go ?_ | refine rP ?_ | refine And.intro ?_ ?_ | fail) <;> try (simp (maxSteps := 1000000) (disch := first | exact dq | fail) only [go_sem, hlf, gk, ga, hs0, hr0]))
  all_goals (try omega)
  have hst := PtI.start (L := fun x => x < f k) (f := f) hk
  generalize swp f a k = g at *
  generalize f k = p at *
  refine aw_postE (β := Nat) (fun i => ⟨168, sl [(0, .msl 0 0 n n), (1, .iv (.int .i64 a)), (10, .iv (.int .i64 i)), (11, .iv (.int .i64 ((b : Int) - 1)))], rwM n g, 1⟩)
    (fun i => PtI (fun x => x < p) f g a b i b p ∧ (i < b → ¬ (fun x => x < p) (g i))) ?_ ?_
  · refine aw_loop (α := Nat) (fun i => ⟨168, sl [(0, .msl 0 0 n n), (1, .iv (.int .i64 a)), (10, .iv (.int .i64 i)), (11, .iv (.int .i64 ((b : Int) - 1)))], rwM n g, 1⟩)
      (fun i => PtI (fun x => x < p) f g a b i b p) (fun i => b - i) (a + 1) (wk_by [0] ?_) hst ?_
    · (simp (maxSteps := 1000000) (disch := first | exact dq | fail) only [go_sem])
    rintro i hI
    have hib := hI.ij
    have hjb := hI.jb
    have hi0 := hI.i0
    have gga := hI.ga
    have hlg := rowF_len n g
    have g1 := rowF_get g (show a < n by omega)
    rw [gga] at g1
    by_cases hlt : i < b
    · have g2 := rowF_get g (show i < n by omega)
      by_cases hless : g i < p
      · (repeat' first
  | ((with_reducible first | refine Nx.go ?_ | refine rP ?_ | refine And.intro ?_ ?_ | fail) <;> try (simp (maxSteps := 1000000) (disch := first | exact dq | fail) only [go_sem, hlg, g1, g2, hless, decide_true, decide_false]))
  | ((with_reducible refine Sp.go ?_ ?_) <;> intro h <;> (try (simp (maxSteps := 1000000) (disch := first | exact dq | fail) only [go_sem] at h)) <;> try (simp (maxSteps := 1000000) (disch := first | exact dq | fail) only [go_sem, h, hlg, g1, g2, hless, decide_true, decide_false]))
  | ((first | with_reducible apply left_callf | with_reducible apply leftD_callf); (· with_reducible rfl); (· (simp (maxSteps := 1000000) (disch := first | exact dq | fail) only [go_sem, hlg, g1, g2, hless, decide_true, decide_false]) <;> rfl); (· (first | exact Less_spec ..)); try (simp (maxSteps := 1000000) (disch := first | exact dq | fail) only [go_sem, hlg, g1, g2, hless, decide_true, decide_false])) | fail)
        all_goals (try omega)
        refine ⟨i + 1, hI.inc hlt hless, wk_by [0] ?_, by omega⟩
        (simp (maxSteps := 1000000) (disch := first | exact dq | fail) only [go_sem])
      · (repeat' first
  | ((with_reducible first | refine Nx.go ?_ | refine rP ?_ | refine And.intro ?_ ?_ | fail) <;> try (simp (maxSteps := 1000000) (disch := first | exact dq | fail) only [go_sem, hlg, g1, g2, hless, decide_true, decide_false]))
  | ((with_reducible refine Sp.go ?_ ?_) <;> intro h <;> (try (simp (maxSteps := 1000000) (disch := first | exact dq | fail) only [go_sem] at h)) <;> try (simp (maxSteps := 1000000) (disch := first | exact dq | fail) only [go_sem, h, hlg, g1, g2, hless, decide_true, decide_false]))
  | ((first | with_reducible apply left_callf | with_reducible apply leftD_callf); (· with_reducible rfl); (· (simp (maxSteps := 1000000) (disch := first | exact dq | fail) only [go_sem, hlg, g1, g2, hless, decide_true, decide_false]) <;> rfl); (· (first | exact Less_spec ..)); try (simp (maxSteps := 1000000) (disch := first | exact dq | fail) only [go_sem, hlg, g1, g2, hless, decide_true, decide_false])) | fail)
        all_goals (try omega)
        refine ⟨i, ⟨hI, fun _ => hless⟩, wk_by [0] ?_⟩
        (simp (maxSteps := 1000000) (disch := first | exact dq | fail) only [go_sem])
    · (repeat' first
  | ((with_reducible first | refine Nx.go ?_ | refine rP ?_ | refine And.intro ?_ ?_ | fail) <;> try (simp (maxSteps := 1000000) (disch := first | exact dq | fail) only [go_sem, hlg, g1]))
  | ((with_reducible refine Sp.go ?_ ?_) <;> intro h <;> (try (simp (maxSteps := 1000000) (disch := first | exact dq | fail) only [go_sem] at h)) <;> try (simp (maxSteps := 1000000) (disch := first | exact dq | fail) only [go_sem, h, hlg, g1]))
  | ((first | with_reducible apply left_callf | with_reducible apply leftD_callf); (· with_reducible rfl); (· (simp (maxSteps := 1000000) (disch := first | exact dq | fail) only [go_sem, hlg, g1]) <;> rfl); (· (first | exact Less_spec ..)); try (simp (maxSteps := 1000000) (disch := first | exact dq | fail) only [go_sem, hlg, g1])) | fail)
      all_goals (try omega)
      refine ⟨i, ⟨hI, fun h => by omega⟩, wk_by [0] ?_⟩
      (simp (maxSteps := 1000000) (disch := first | exact dq | fail) only [go_sem])
  rintro i ⟨hI, hex⟩
  (simp (maxSteps := 1000000) (disch := first | exact dq | fail) only [go_sem])
  (repeat' (first | refine Nx.go ?_ | fail) <;> try (simp (maxSteps := 1000000) (disch := first | exact dq | fail) only [go_sem]))
  refine aw_postE (β := Nat) (fun j => ⟨168, sl [(0, .msl 0 0 n n), (1, .iv (.int .i64 a)), (10, .iv (.int .i64 i)), (11, .iv (.int .i64 ((j : Int) - 1)))], rwM n g, 1⟩)
    (fun j => PtI (fun x => x < p) f g a b i j p ∧ (i < j → ¬ (fun x => x < p) (g i)) ∧ (i < j → (fun x => x < p) (g (j - 1))) ∧ j ≤ b) ?_ ?_
  · refine aw_loop (α := Nat) (fun j => ⟨168, sl [(0, .msl 0 0 n n), (1, .iv (.int .i64 a)), (10, .iv (.int .i64 i)), (11, .iv (.int .i64 ((j : Int) - 1)))], rwM n g, 1⟩)
      (fun j => PtI (fun x => x < p) f g a b i j p ∧ (i < j → ¬ (fun x => x < p) (g i)) ∧ j ≤ b) (fun j => j) b (wk_by [0] ?_) ⟨hI, hex, Nat.le_refl _⟩ ?_
    · (simp (maxSteps := 1000000) (disch := first | exact dq | fail) only [go_sem])
    rintro j ⟨hI, hex, hjs⟩
    have hib := hI.ij
    have hjb := hI.jb
    have hi0 := hI.i0
    have gga := hI.ga
    have hlg := rowF_len n g
    have g1 := rowF_get g (show a < n by omega)
    rw [gga] at g1
    obtain ⟨j, rfl⟩ : ∃ k, j = k + 1 := ⟨j - 1, by omega⟩
    have ej : ((j + 1 : Nat) : Int) - 1 = j := by omega
    have ej2 : (j : Int) + 1 - 1 = j := by omega
    by_cases hlt : i < j + 1
    · have g2 := rowF_get g (show j < n by omega)
      by_cases hless : g j < p
      · (repeat' first
  | ((with_reducible first | refine Nx.go ?_ | refine rP ?_ | refine And.intro ?_ ?_ | fail) <;> try (simp (maxSteps := 1000000) (disch := first | exact dq | fail) only [go_sem, ej, ej2, hlg, g1, g2, hless, decide_true, decide_false]))
  | ((with_reducible refine Sp.go ?_ ?_) <;> intro h <;> (try (simp (maxSteps := 1000000) (disch := first | exact dq | fail) only [go_sem] at h)) <;> try (simp (maxSteps := 1000000) (disch := first | exact dq | fail) only [go_sem, h, ej, ej2, hlg, g1, g2, hless, decide_true, decide_false]))
  | ((first | with_reducible apply left_callf | with_reducible apply leftD_callf); (· with_reducible rfl); (· (simp (maxSteps := 1000000) (disch := first | exact dq | fail) only [go_sem, ej, ej2, hlg, g1, g2, hless, decide_true, decide_false]) <;> rfl); (· (first | exact Less_spec ..)); try (simp (maxSteps := 1000000) (disch := first | exact dq | fail) only [go_sem, ej, ej2, hlg, g1, g2, hless, decide_true, decide_false])) | fail)
        all_goals (try omega)
        refine ⟨j + 1, ⟨hI, hex, fun _ => hless, hjs⟩, wk_by [0] ?_⟩
        (simp (maxSteps := 1000000) (disch := first | exact dq | fail) only [go_sem, ej, ej2])
      · (repeat' first
  | ((with_reducible first | refine Nx.go ?_ | refine rP ?_ | refine And.intro ?_ ?_ | fail) <;> try (simp (maxSteps := 1000000) (disch := first | exact dq | fail) only [go_sem, ej, ej2, hlg, g1, g2, hless, decide_true, decide_false]))
  | ((with_reducible refine Sp.go ?_ ?_) <;> intro h <;> (try (simp (maxSteps := 1000000) (disch := first | exact dq | fail) only [go_sem] at h)) <;> try (simp (maxSteps := 1000000) (disch := first | exact dq | fail) only [go_sem, h, ej, ej2, hlg, g1, g2, hless, decide_true, decide_false]))
  | ((first | with_reducible apply left_callf | with_reducible apply leftD_callf); (· with_reducible rfl); (· (simp (maxSteps := 1000000) (disch := first | exact dq | fail) only [go_sem, ej, ej2, hlg, g1, g2, hless, decide_true, decide_false]) <;> rfl); (· (first | exact Less_spec ..)); try (simp (maxSteps := 1000000) (disch := first | exact dq | fail) only [go_sem, ej, ej2, hlg, g1, g2, hless, decide_true, decide_false])) | fail)
        all_goals (try omega)
        refine ⟨j, ⟨hI.dec hlt hless, fun h => hex (by omega), by omega⟩, wk_by [0] ?_, by omega⟩
        (simp (maxSteps := 1000000) (disch := first | exact dq | fail) only [go_sem])
    · (repeat' first
  | ((with_reducible first | refine Nx.go ?_ | refine rP ?_ | refine And.intro ?_ ?_ | fail) <;> try (simp (maxSteps := 1000000) (disch := first | exact dq | fail) only [go_sem, ej, ej2, hlg, g1]))
  | ((with_reducible refine Sp.go ?_ ?_) <;> intro h <;> (try (simp (maxSteps := 1000000) (disch := first | exact dq | fail) only [go_sem] at h)) <;> try (simp (maxSteps := 1000000) (disch := first | exact dq | fail) only [go_sem, h, ej, ej2, hlg, g1]))
  | ((first | with_reducible apply left_callf | with_reducible apply leftD_callf); (· with_reducible rfl); (· (simp (maxSteps := 1000000) (disch := first | exact dq | fail) only [go_sem, ej, ej2, hlg, g1]) <;> rfl); (· (first | exact Less_spec ..)); try (simp (maxSteps := 1000000) (disch := first | exact dq | fail) only [go_sem, ej, ej2, hlg, g1])) | fail)
      all_goals (try omega)
      refine ⟨j + 1, ⟨hI, hex, fun h => by omega, hjs⟩, wk_by [0] ?_⟩
      (simp (maxSteps := 1000000) (disch := first | exact dq | fail) only [go_sem, ej, ej2])
  rintro j ⟨hI, hex, hex2, hjs⟩
  have hib := hI.ij
  have hjb := hI.jb
  have hi0 := hI.i0
  have hlg := rowF_len n g
  have g1 := rowF_get g (show a < n by omega)
  obtain ⟨j, rfl⟩ : ∃ k, j = k + 1 := ⟨j - 1, by omega⟩
  have ej : ((j + 1 : Nat) : Int) - 1 = j := by omega
  have ej2 : (j : Int) + 1 - 1 = j := by omega
  have g2 := rowF_get g (show j < n by omega)
  (simp (maxSteps := 1000000) (disch := first | exact dq | fail) only [go_sem, ej, ej2])
  by_cases hlt : i < j + 1
  · have g3 := rowF_get g (show i < n by omega)
    have hs := swp_row n g i j
    have hr := swp_get g (i := i) (show j < n by omega)
    have hsw := hI.swap hlt (hex hlt) (hex2 hlt)
    rw [Nat.add_sub_cancel] at hsw
    obtain ⟨hlt2, hst2⟩ := hsw
    (repeat' first
  | ((with_reducible first | refine Nx.go ?_ | refine rP ?_ | refine And.intro ?_ ?_ | fail) <;> try (simp (maxSteps := 1000000) (disch := first | exact dq | fail) only [go_sem, ej, ej2, hlg, g2, g3, hs, hr]))
  | ((with_reducible refine Sp.go ?_ ?_) <;> intro h <;> (try (simp (maxSteps := 1000000) (disch := first | exact dq | fail) only [go_sem] at h)) <;> try (simp (maxSteps := 1000000) (disch := first | exact dq | fail) only [go_sem, h, ej, ej2, hlg, g2, g3, hs, hr])) | fail)
    all_goals (try omega)
    clear hI hex hex2 hst hs0 hr0 hs hr g1 g2 g3 hlg
    generalize swp g i j = g at *
    refine aw_loop (α := Nat × Nat × (Nat → Int)) (fun x => ⟨168, sl [(0, .msl 0 0 n n), (1, .iv (.int .i64 a)), (10, .iv (.int .i64 x.1)), (11, .iv (.int .i64 ((x.2.1 : Int) - 1)))], rwM n x.2.2, 1⟩)
      (fun x => PtI (fun y => y < p) f x.2.2 a b x.1 x.2.1 p) (fun x => x.2.1) (i + 1, j, g) (wk_by [0] ?_) hst2 ?_
    · (simp (maxSteps := 1000000) (disch := first | exact dq | fail) only [go_sem])
    rintro ⟨i, jj, g⟩ hst
    dsimp only at hst
    (repeat' (first | refine Nx.go ?_ | fail) <;> try (simp (maxSteps := 1000000) (disch := first | exact dq | fail) only [go_sem]))
    refine aw_postE (β := Nat) (fun i => ⟨168, sl [(0, .msl 0 0 n n), (1, .iv (.int .i64 a)), (10, .iv (.int .i64 i)), (11, .iv (.int .i64 ((jj : Int) - 1)))], rwM n g, 1⟩)
      (fun i => PtI (fun x => x < p) f g a b i jj p ∧ (i < jj → ¬ (fun x => x < p) (g i))) ?_ ?_
    · refine aw_loop (α := Nat) (fun i => ⟨168, sl [(0, .msl 0 0 n n), (1, .iv (.int .i64 a)), (10, .iv (.int .i64 i)), (11, .iv (.int .i64 ((jj : Int) - 1)))], rwM n g, 1⟩)
        (fun i => PtI (fun x => x < p) f g a b i jj p) (fun i => jj - i) i (wk_by [0] ?_) hst ?_
      · (simp (maxSteps := 1000000) (disch := first | exact dq | fail) only [go_sem])
      rintro i hI
      have hib := hI.ij
      have hjb := hI.jb
      have hi0 := hI.i0
      have gga := hI.ga
      have hlg := rowF_len n g
      have g1 := rowF_get g (show a < n by omega)
      rw [gga] at g1
      by_cases hlt : i < jj
      · have g2 := rowF_get g (show i < n by omega)
        by_cases hless : g i < p
        · (repeat' first
  | ((with_reducible first | refine Nx.go ?_ | refine rP ?_ | refine And.intro ?_ ?_ | fail) <;> try (simp (maxSteps := 1000000) (disch := first | exact dq | fail) only [go_sem, hlg, g1, g2, hless, decide_true, decide_false]))
  | ((with_reducible refine Sp.go ?_ ?_) <;> intro h <;> (try (simp (maxSteps := 1000000) (disch := first | exact dq | fail) only [go_sem] at h)) <;> try (simp (maxSteps := 1000000) (disch := first | exact dq | fail) only [go_sem, h, hlg, g1, g2, hless, decide_true, decide_false]))
  | ((first | with_reducible apply left_callf | with_reducible apply leftD_callf); (· with_reducible rfl); (· (simp (maxSteps := 1000000) (disch := first | exact dq | fail) only [go_sem, hlg, g1, g2, hless, decide_true, decide_false]) <;> rfl); (· (first | exact Less_spec ..)); try (simp (maxSteps := 1000000) (disch := first | exact dq | fail) only [go_sem, hlg, g1, g2, hless, decide_true, decide_false])) | fail)
          all_goals (try omega)
          refine ⟨i + 1, hI.inc hlt hless, wk_by [0] ?_, by omega⟩
          (simp (maxSteps := 1000000) (disch := first | exact dq | fail) only [go_sem])
        · (repeat' first
  | ((with_reducible first | refine Nx.go ?_ | refine rP ?_ | refine And.intro ?_ ?_ | fail) <;> try (simp (maxSteps := 1000000) (disch := first | exact dq | fail) only [go_sem, hlg, g1, g2, hless, decide_true, decide_false]))
  | ((with_reducible refine Sp.go ?_ ?_) <;> intro h <;> (try (simp (maxSteps := 1000000) (disch := first | exact dq | fail) only [go_sem] at h)) <;> try (simp (maxSteps := 1000000) (disch := first | exact dq | fail) only [go_sem, h, hlg, g1, g2, hless, decide_true, decide_false]))
  | ((first | with_reducible apply left_callf | with_reducible apply leftD_callf); (· with_reducible rfl); (· (simp (maxSteps := 1000000) (disch := first | exact dq | fail) only [go_sem, hlg, g1, g2, hless, decide_true, decide_false]) <;> rfl); (· (first | exact Less_spec ..)); try (simp (maxSteps := 1000000) (disch := first | exact dq | fail) only [go_sem, hlg, g1, g2, hless, decide_true, decide_false])) | fail)
          all_goals (try omega)
          refine ⟨i, ⟨hI, fun _ => hless⟩, wk_by [0] ?_⟩
          (simp (maxSteps := 1000000) (disch := first | exact dq | fail) only [go_sem])
      · (repeat' first
  | ((with_reducible first | refine Nx.go ?_ | refine rP ?_ | refine And.intro ?_ ?_ | fail) <;> try (simp (maxSteps := 1000000) (disch := first | exact dq | fail) only [go_sem, hlg, g1]))
  | ((with_reducible refine Sp.go ?_ ?_) <;> intro h <;> (try (simp (maxSteps := 1000000) (disch := first | exact dq | fail) only [go_sem] at h)) <;> try (simp (maxSteps := 1000000) (disch := first | exact dq | fail) only [go_sem, h, hlg, g1]))
  | ((first | with_reducible apply left_callf | with_reducible apply leftD_callf); (· with_reducible rfl); (· (simp (maxSteps := 1000000) (disch := first | exact dq | fail) only [go_sem, hlg, g1]) <;> rfl); (· (first | exact Less_spec ..)); try (simp (maxSteps := 1000000) (disch := first | exact dq | fail) only [go_sem, hlg, g1])) | fail)
        all_goals (try omega)
        refine ⟨i, ⟨hI, fun h => by omega⟩, wk_by [0] ?_⟩
        (simp (maxSteps := 1000000) (disch := first | exact dq | fail) only [go_sem])
    rintro i ⟨hI, hex⟩
    (simp (maxSteps := 1000000) (disch := first | exact dq | fail) only [go_sem])
    (repeat' (first | refine Nx.go ?_ | fail) <;> try (simp (maxSteps := 1000000) (disch := first | exact dq | fail) only [go_sem]))
    refine aw_postE (β := Nat) (fun j => ⟨168, sl [(0, .msl 0 0 n n), (1, .iv (.int .i64 a)), (10, .iv (.int .i64 i)), (11, .iv (.int .i64 ((j : Int) - 1)))], rwM n g, 1⟩)
      (fun j => PtI (fun x => x < p) f g a b i j p ∧ (i < j → ¬ (fun x => x < p) (g i)) ∧ (i < j → (fun x => x < p) (g (j - 1))) ∧ j ≤ jj) ?_ ?_
    · refine aw_loop (α := Nat) (fun j => ⟨168, sl [(0, .msl 0 0 n n), (1, .iv (.int .i64 a)), (10, .iv (.int .i64 i)), (11, .iv (.int .i64 ((j : Int) - 1)))], rwM n g, 1⟩)
        (fun j => PtI (fun x => x < p) f g a b i j p ∧ (i < j → ¬ (fun x => x < p) (g i)) ∧ j ≤ jj) (fun j => j) jj (wk_by [0] ?_) ⟨hI, hex, Nat.le_refl _⟩ ?_
      · (simp (maxSteps := 1000000) (disch := first | exact dq | fail) only [go_sem])
      rintro j ⟨hI, hex, hjs⟩
      have hib := hI.ij
      have hjb := hI.jb
      have hi0 := hI.i0
      have gga := hI.ga
      have hlg := rowF_len n g
      have g1 := rowF_get g (show a < n by omega)
      rw [gga] at g1
      obtain ⟨j, rfl⟩ : ∃ k, j = k + 1 := ⟨j - 1, by omega⟩
      have ej : ((j + 1 : Nat) : Int) - 1 = j := by omega
      have ej2 : (j : Int) + 1 - 1 = j := by omega
      by_cases hlt : i < j + 1
      · have g2 := rowF_get g (show j < n by omega)
        by_cases hless : g j < p
        · (repeat' first
  | ((with_reducible first | refine Nx.go ?_ | refine rP ?_ | refine And.intro ?_ ?_ | fail) <;> try (simp (maxSteps := 1000000) (disch := first | exact dq | fail) only [go_sem, ej, ej2, hlg, g1, g2, hless, decide_true, decide_false]))
  | ((with_reducible refine Sp.go ?_ ?_) <;> intro h <;> (try (simp (maxSteps := 1000000) (disch := first | exact dq | fail) only [go_sem] at h)) <;> try (simp (maxSteps := 1000000) (disch := first | exact dq | fail) only [go_sem, h, ej, ej2, hlg, g1, g2, hless, decide_true, decide_false]))
  | ((first | with_reducible apply left_callf | with_reducible apply leftD_callf); (· with_reducible rfl); (· (simp (maxSteps := 1000000) (disch := first | exact dq | fail) only [go_sem, ej, ej2, hlg, g1, g2, hless, decide_true, decide_false]) <;> rfl); (· (first | exact Less_spec ..)); try (simp (maxSteps := 1000000) (disch := first | exact dq | fail) only [go_sem, ej, ej2, hlg, g1, g2, hless, decide_true, decide_false])) | fail)
          all_goals (try omega)
          refine ⟨j + 1, ⟨hI, hex, fun _ => hless, hjs⟩, wk_by [0] ?_⟩
          (simp (maxSteps := 1000000) (disch := first | exact dq | fail) only [go_sem, ej, ej2])
        · (repeat' first
  | ((with_reducible first | refine Nx.go ?_ | refine rP ?_ | refine And.intro ?_ ?_ | fail) <;> try (simp (maxSteps := 1000000) (disch := first | exact dq | fail) only [go_sem, ej, ej2, hlg, g1, g2, hless, decide_true, decide_false]))
  | ((with_reducible refine Sp.go ?_ ?_) <;> intro h <;> (try (simp (maxSteps := 1000000) (disch := first | exact dq | fail) only [go_sem] at h)) <;> try (simp (maxSteps := 1000000) (disch := first | exact dq | fail) only [go_sem, h, ej, ej2, hlg, g1, g2, hless, decide_true, decide_false]))
  | ((first | with_reducible apply left_callf | with_reducible apply leftD_callf); (· with_reducible rfl); (· (simp (maxSteps := 1000000) (disch := first | exact dq | fail) only [go_sem, ej, ej2, hlg, g1, g2, hless, decide_true, decide_false]) <;> rfl); (· (first | exact Less_spec ..)); try (simp (maxSteps := 1000000) (disch := first | exact dq | fail) only [go_sem, ej, ej2, hlg, g1, g2, hless, decide_true, decide_false])) | fail)
          all_goals (try omega)
          refine ⟨j, ⟨hI.dec hlt hless, fun h => hex (by omega), by omega⟩, wk_by [0] ?_, by omega⟩
          (simp (maxSteps := 1000000) (disch := first | exact dq | fail) only [go_sem])
      · (repeat' first
  | ((with_reducible first | refine Nx.go ?_ | refine rP ?_ | refine And.intro ?_ ?_ | fail) <;> try (simp (maxSteps := 1000000) (disch := first | exact dq | fail) only [go_sem, ej, ej2, hlg, g1]))
  | ((with_reducible refine Sp.go ?_ ?_) <;> intro h <;> (try (simp (maxSteps := 1000000) (disch := first | exact dq | fail) only [go_sem] at h)) <;> try (simp (maxSteps := 1000000) (disch := first | exact dq | fail) only [go_sem, h, ej, ej2, hlg, g1]))
  | ((first | with_reducible apply left_callf | with_reducible apply leftD_callf); (· with_reducible rfl); (· (simp (maxSteps := 1000000) (disch := first | exact dq | fail) only [go_sem, ej, ej2, hlg, g1]) <;> rfl); (· (first | exact Less_spec ..)); try (simp (maxSteps := 1000000) (disch := first | exact dq | fail) only [go_sem, ej, ej2, hlg, g1])) | fail)
        all_goals (try omega)
        refine ⟨j + 1, ⟨hI, hex, fun h => by omega, hjs⟩, wk_by [0] ?_⟩
        (simp (maxSteps := 1000000) (disch := first | exact dq | fail) only [go_sem, ej, ej2])
    rintro j ⟨hI, hex, hex2, hjs⟩
    have hib := hI.ij
    have hjb := hI.jb
    have hi0 := hI.i0
    have hlg := rowF_len n g
    have g1 := rowF_get g (show a < n by omega)
    obtain ⟨j, rfl⟩ : ∃ k, j = k + 1 := ⟨j - 1, by omega⟩
    have ej : ((j + 1 : Nat) : Int) - 1 = j := by omega
    have ej2 : (j : Int) + 1 - 1 = j := by omega
    have g2 := rowF_get g (show j < n by omega)
    (simp (maxSteps := 1000000) (disch := first | exact dq | fail) only [go_sem, ej, ej2])
    by_cases hlt : i < j + 1
    · have g3 := rowF_get g (show i < n by omega)
      have hs := swp_row n g i j
      have hr := swp_get g (i := i) (show j < n by omega)
      have hsw := hI.swap hlt (hex hlt) (hex2 hlt)
      rw [Nat.add_sub_cancel] at hsw
      obtain ⟨hlt2, hst2⟩ := hsw
      (repeat' first
  | ((with_reducible first | refine Nx.go ?_ | refine rP ?_ | refine And.intro ?_ ?_ | fail) <;> try (simp (maxSteps := 1000000) (disch := first | exact dq | fail) only [go_sem, ej, ej2, hlg, g2, g3, hs, hr]))
  | ((with_reducible refine Sp.go ?_ ?_) <;> intro h <;> (try (simp (maxSteps := 1000000) (disch := first | exact dq | fail) only [go_sem] at h)) <;> try (simp (maxSteps := 1000000) (disch := first | exact dq | fail) only [go_sem, h, ej, ej2, hlg, g2, g3, hs, hr])) | fail)
      all_goals (try omega)
      refine ⟨(i + 1, j, swp g i j), hst2, wk_by [0] ?_, by dsimp only; omega⟩
      (simp (maxSteps := 1000000) (disch := first | exact dq | fail) only [go_sem])
    · have hd := hI.done (by omega) (fun x => Iff.rfl)
      rw [Nat.add_sub_cancel] at hd
      have hs := swp_row n g j a
      have hr := swp_get g (i := j) (show a < n by omega)
      (repeat' first
  | ((with_reducible first | refine Nx.go ?_ | refine rP ?_ | refine And.intro ?_ ?_ | fail) <;> try (simp (maxSteps := 1000000) (disch := first | exact dq | fail) only [go_sem, ej, ej2, hlg, g1, g2, hs, hr]))
  | ((with_reducible refine Sp.go ?_ ?_) <;> intro h <;> (try (simp (maxSteps := 1000000) (disch := first | exact dq | fail) only [go_sem] at h)) <;> try (simp (maxSteps := 1000000) (disch := first | exact dq | fail) only [go_sem, h, ej, ej2, hlg, g1, g2, hs, hr])) | fail)
      all_goals (try omega)
      refine ⟨_, _, ⟨swp g j a, rfl, j, false, rfl, by omega, hd⟩, fin_k [0] ?_⟩
      (simp (maxSteps := 1000000) (disch := first | exact dq | fail) only [go_sem])
  · have hd := hI.done (by omega) (fun x => Iff.rfl)
    rw [Nat.add_sub_cancel] at hd
    have hs := swp_row n g j a
    have hr := swp_get g (i := j) (show a < n by omega)
    (repeat' first
  | ((with_reducible first | refine Nx.go ?_ | refine rP ?_ | refine And.intro ?_ ?_ | fail) <;> try (simp (maxSteps := 1000000) (disch := first | exact dq | fail) only [go_sem, ej, ej2, hlg, g1, g2, hs, hr]))
  | ((with_reducible refine Sp.go ?_ ?_) <;> intro h <;> (try (simp (maxSteps := 1000000) (disch := first | exact dq | fail) only [go_sem] at h)) <;> try (simp (maxSteps := 1000000) (disch := first | exact dq | fail) only [go_sem, h, ej, ej2, hlg, g1, g2, hs, hr])) | fail)
    all_goals (try omega)
    refine ⟨_, _, ⟨swp g j a, rfl, j, true, rfl, by omega, hd⟩, fin_k [0] ?_⟩
    (simp (maxSteps := 1000000) (disch := first | exact dq | fail) only [go_sem])
end Go.Proofs.Ytnijpeeehnnipaa.AM

set_option linter.unusedVariables false
set_option linter.unusedSimpArgs false
set_option maxRecDepth 20000
namespace Go.Proofs.Ytnijpeeehnnipaa.AM
open Go Go.RowKit

set_option maxHeartbeats 4000000 in
theorem partEq_spec (n a b k : Nat) (f : Nat → Int) (hk : a ≤ k ∧ k < b) (hb : b ≤ n) (hn : n ≤ 1000000) (hlow : ∀ m, a ≤ m → m < b → f k ≤ f m) :
    RCalls Try.prog 88 [.msl 0 0 n n, .iv (.int .i64 a), .iv (.int .i64 b), .iv (.int .i64 k)] (rwM n f)
      (fun r M' => ∃ g, M' = rwM n g ∧ ∃ (m : Nat), r = .iv (.int .i64 m) ∧ (a < m ∧ m ≤ b) ∧ Sw a b f g ∧ (∀ q, a ≤ q → q < m → g q = f k) ∧ (∀ q, m ≤ q → q < b → f k < g q)) := by
  have hlf := rowF_len n f
  have gk := rowF_get f (show k < n by omega)
  have ga := rowF_get f (show a < n by omega)
  have hs0 := swp_row n f a k
  have hr0 := swp_get f (i := a) (show k < n by omega)
  refine RCalls.of_aw Try.func88 rfl (by unfold Callable; kernel_rfl) (by kernel_rfl) (by simp [Try.ntmps88]) (by rintro _ _ ⟨_, rfl, _⟩; exact Nat.le_refl _) ?_; rw [Try.ntmps88, Try.results88]; (simp (maxSteps := 1000000) (disch := first | exact dq | fail) only [go_sem])
  (repeat' (with_reducible first | refine Nx.go ?_ | refine rP ?_ | refine And.intro ?_ ?_ | fail) <;> try (simp (maxSteps := 1000000) (disch := first | exact dq | fail) only [go_sem, hlf, gk, ga, hs0, hr0]))
  all_goals (try omega)
  have hst := PtI.start (L := fun x => ¬ f k < x) (f := f) hk
  generalize swp f a k = g at *
  generalize f k = p at *
  refine aw_loop (α := Nat × Nat × (Nat → Int)) (fun x => ⟨84, sl [(0, .msl 0 0 n n), (1, .iv (.int .i64 a)), (9, .iv (.int .i64 x.1)), (10, .iv (.int .i64 ((x.2.1 : Int) - 1)))], rwM n x.2.2, 1⟩)
    (fun x => PtI (fun y => ¬ p < y) f x.2.2 a b x.1 x.2.1 p) (fun x => x.2.1) (a + 1, b, g) (wk_by [0] ?_) hst ?_
  · (simp (maxSteps := 1000000) (disch := first | exact dq | fail) only [go_sem])
  clear hst hs0
  rintro ⟨i, jj, g⟩ hst
  dsimp only at hst
  (repeat' (first | refine Nx.go ?_ | fail) <;> try (simp (maxSteps := 1000000) (disch := first | exact dq | fail) only [go_sem]))
  refine aw_postE (β := Nat) (fun i => ⟨84, sl [(0, .msl 0 0 n n), (1, .iv (.int .i64 a)), (9, .iv (.int .i64 i)), (10, .iv (.int .i64 ((jj : Int) - 1)))], rwM n g, 1⟩)
    (fun i => PtI (fun x => ¬ p < x) f g a b i jj p ∧ (i < jj → ¬ (fun x => ¬ p < x) (g i))) ?_ ?_
  · refine aw_loop (α := Nat) (fun i => ⟨84, sl [(0, .msl 0 0 n n), (1, .iv (.int .i64 a)), (9, .iv (.int .i64 i)), (10, .iv (.int .i64 ((jj : Int) - 1)))], rwM n g, 1⟩)
      (fun i => PtI (fun x => ¬ p < x) f g a b i jj p) (fun i => jj - i) i (wk_by [0] ?_) hst ?_
    · (simp (maxSteps := 1000000) (disch := first | exact dq | fail) only [go_sem])
    rintro i hI
    have hib := hI.ij
    have hjb := hI.jb
    have hi0 := hI.i0
    have gga := hI.ga
    have hlg := rowF_len n g
    have g1 := rowF_get g (show a < n by omega)
    rw [gga] at g1
    by_cases hlt : i < jj
    · have g2 := rowF_get g (show i < n by omega)
      by_cases hless : p < g i
      · (repeat' first
  | ((with_reducible first | refine Nx.go ?_ | refine rP ?_ | refine And.intro ?_ ?_ | fail) <;> try (simp (maxSteps := 1000000) (disch := first | exact dq | fail) only [go_sem, hlg, g1, g2, hless, decide_true, decide_false]))
  | ((with_reducible refine Sp.go ?_ ?_) <;> intro h <;> (try (simp (maxSteps := 1000000) (disch := first | exact dq | fail) only [go_sem] at h)) <;> try (simp (maxSteps := 1000000) (disch := first | exact dq | fail) only [go_sem, h, hlg, g1, g2, hless, decide_true, decide_false]))
  | ((first | with_reducible apply left_callf | with_reducible apply leftD_callf); (· with_reducible rfl); (· (simp (maxSteps := 1000000) (disch := first | exact dq | fail) only [go_sem, hlg, g1, g2, hless, decide_true, decide_false]) <;> rfl); (· (first | exact Less_spec ..)); try (simp (maxSteps := 1000000) (disch := first | exact dq | fail) only [go_sem, hlg, g1, g2, hless, decide_true, decide_false])) | fail)
        all_goals (try omega)
        refine ⟨i, ⟨hI, fun _ h => h hless⟩, wk_by [0] ?_⟩
        (simp (maxSteps := 1000000) (disch := first | exact dq | fail) only [go_sem])
      · (repeat' first
  | ((with_reducible first | refine Nx.go ?_ | refine rP ?_ | refine And.intro ?_ ?_ | fail) <;> try (simp (maxSteps := 1000000) (disch := first | exact dq | fail) only [go_sem, hlg, g1, g2, hless, decide_true, decide_false]))
  | ((with_reducible refine Sp.go ?_ ?_) <;> intro h <;> (try (simp (maxSteps := 1000000) (disch := first | exact dq | fail) only [go_sem] at h)) <;> try (simp (maxSteps := 1000000) (disch := first | exact dq | fail) only [go_sem, h, hlg, g1, g2, hless, decide_true, decide_false]))
  | ((first | with_reducible apply left_callf | with_reducible apply leftD_callf); (· with_reducible rfl); (· (simp (maxSteps := 1000000) (disch := first | exact dq | fail) only [go_sem, hlg, g1, g2, hless, decide_true, decide_false]) <;> rfl); (· (first | exact Less_spec ..)); try (simp (maxSteps := 1000000) (disch := first | exact dq | fail) only [go_sem, hlg, g1, g2, hless, decide_true, decide_false])) | fail)
        all_goals (try omega)
        refine ⟨i + 1, hI.inc hlt hless, wk_by [0] ?_, by omega⟩
        (simp (maxSteps := 1000000) (disch := first | exact dq | fail) only [go_sem])
    · (repeat' first
  | ((with_reducible first | refine Nx.go ?_ | refine rP ?_ | refine And.intro ?_ ?_ | fail) <;> try (simp (maxSteps := 1000000) (disch := first | exact dq | fail) only [go_sem, hlg, g1]))
  | ((with_reducible refine Sp.go ?_ ?_) <;> intro h <;> (try (simp (maxSteps := 1000000) (disch := first | exact dq | fail) only [go_sem] at h)) <;> try (simp (maxSteps := 1000000) (disch := first | exact dq | fail) only [go_sem, h, hlg, g1]))
  | ((first | with_reducible apply left_callf | with_reducible apply leftD_callf); (· with_reducible rfl); (· (simp (maxSteps := 1000000) (disch := first | exact dq | fail) only [go_sem, hlg, g1]) <;> rfl); (· (first | exact Less_spec ..)); try (simp (maxSteps := 1000000) (disch := first | exact dq | fail) only [go_sem, hlg, g1])) | fail)
      all_goals (try omega)
      refine ⟨i, ⟨hI, fun h => by omega⟩, wk_by [0] ?_⟩
      (simp (maxSteps := 1000000) (disch := first | exact dq | fail) only [go_sem])
  rintro i ⟨hI, hex⟩
  (simp (maxSteps := 1000000) (disch := first | exact dq | fail) only [go_sem])
  (repeat' (first | refine Nx.go ?_ | fail) <;> try (simp (maxSteps := 1000000) (disch := first | exact dq | fail) only [go_sem]))
  refine aw_postE (β := Nat) (fun j => ⟨84, sl [(0, .msl 0 0 n n), (1, .iv (.int .i64 a)), (9, .iv (.int .i64 i)), (10, .iv (.int .i64 ((j : Int) - 1)))], rwM n g, 1⟩)
    (fun j => PtI (fun x => ¬ p < x) f g a b i j p ∧ (i < j → ¬ (fun x => ¬ p < x) (g i)) ∧ (i < j → (fun x => ¬ p < x) (g (j - 1))) ∧ j ≤ jj) ?_ ?_
  · refine aw_loop (α := Nat) (fun j => ⟨84, sl [(0, .msl 0 0 n n), (1, .iv (.int .i64 a)), (9, .iv (.int .i64 i)), (10, .iv (.int .i64 ((j : Int) - 1)))], rwM n g, 1⟩)
      (fun j => PtI (fun x => ¬ p < x) f g a b i j p ∧ (i < j → ¬ (fun x => ¬ p < x) (g i)) ∧ j ≤ jj) (fun j => j) jj (wk_by [0] ?_) ⟨hI, hex, Nat.le_refl _⟩ ?_
    · (simp (maxSteps := 1000000) (disch := first | exact dq | fail) only [go_sem])
    rintro j ⟨hI, hex, hjs⟩
    have hib := hI.ij
    have hjb := hI.jb
    have hi0 := hI.i0
    have gga := hI.ga
    have hlg := rowF_len n g
    have g1 := rowF_get g (show a < n by omega)
    rw [gga] at g1
    obtain ⟨j, rfl⟩ : ∃ k, j = k + 1 := ⟨j - 1, by omega⟩
    have ej : ((j + 1 : Nat) : Int) - 1 = j := by omega
    have ej2 : (j : Int) + 1 - 1 = j := by omega
    by_cases hlt : i < j + 1
    · have g2 := rowF_get g (show j < n by omega)
      by_cases hless : p < g j
      · (repeat' first
  | ((with_reducible first | refine Nx.go ?_ | refine rP ?_ | refine And.intro ?_ ?_ | fail) <;> try (simp (maxSteps := 1000000) (disch := first | exact dq | fail) only [go_sem, ej, ej2, hlg, g1, g2, hless, decide_true, decide_false]))
  | ((with_reducible refine Sp.go ?_ ?_) <;> intro h <;> (try (simp (maxSteps := 1000000) (disch := first | exact dq | fail) only [go_sem] at h)) <;> try (simp (maxSteps := 1000000) (disch := first | exact dq | fail) only [go_sem, h, ej, ej2, hlg, g1, g2, hless, decide_true, decide_false]))
  | ((first | with_reducible apply left_callf | with_reducible apply leftD_callf); (· with_reducible rfl); (· (simp (maxSteps := 1000000) (disch := first | exact dq | fail) only [go_sem, ej, ej2, hlg, g1, g2, hless, decide_true, decide_false]) <;> rfl); (· (first | exact Less_spec ..)); try (simp (maxSteps := 1000000) (disch := first | exact dq | fail) only [go_sem, ej, ej2, hlg, g1, g2, hless, decide_true, decide_false])) | fail)
        all_goals (try omega)
        refine ⟨j, ⟨hI.dec hlt (fun h => h hless), fun h => hex (by omega), by omega⟩, wk_by [0] ?_, by omega⟩
        (simp (maxSteps := 1000000) (disch := first | exact dq | fail) only [go_sem])
      · (repeat' first
  | ((with_reducible first | refine Nx.go ?_ | refine rP ?_ | refine And.intro ?_ ?_ | fail) <;> try (simp (maxSteps := 1000000) (disch := first | exact dq | fail) only [go_sem, ej, ej2, hlg, g1, g2, hless, decide_true, decide_false]))
  | ((with_reducible refine Sp.go ?_ ?_) <;> intro h <;> (try (simp (maxSteps := 1000000) (disch := first | exact dq | fail) only [go_sem] at h)) <;> try (simp (maxSteps := 1000000) (disch := first | exact dq | fail) only [go_sem, h, ej, ej2, hlg, g1, g2, hless, decide_true, decide_false]))
  | ((first | with_reducible apply left_callf | with_reducible apply leftD_callf); (· with_reducible rfl); (· (simp (maxSteps := 1000000) (disch := first | exact dq | fail) only [go_sem, ej, ej2, hlg, g1, g2, hless, decide_true, decide_false]) <;> rfl); (· (first | exact Less_spec ..)); try (simp (maxSteps := 1000000) (disch := first | exact dq | fail) only [go_sem, ej, ej2, hlg, g1, g2, hless, decide_true, decide_false])) | fail)
        all_goals (try omega)
        refine ⟨j + 1, ⟨hI, hex, fun _ => hless, hjs⟩, wk_by [0] ?_⟩
        (simp (maxSteps := 1000000) (disch := first | exact dq | fail) only [go_sem, ej, ej2])
    · (repeat' first
  | ((with_reducible first | refine Nx.go ?_ | refine rP ?_ | refine And.intro ?_ ?_ | fail) <;> try (simp (maxSteps := 1000000) (disch := first | exact dq | fail) only [go_sem, ej, ej2, hlg, g1]))
  | ((with_reducible refine Sp.go ?_ ?_) <;> intro h <;> (try (simp (maxSteps := 1000000) (disch := first | exact dq | fail) only [go_sem] at h)) <;> try (simp (maxSteps := 1000000) (disch := first | exact dq | fail) only [go_sem, h, ej, ej2, hlg, g1]))
  | ((first | with_reducible apply left_callf | with_reducible apply leftD_callf); (· with_reducible rfl); (· (simp (maxSteps := 1000000) (disch := first | exact dq | fail) only [go_sem, ej, ej2, hlg, g1]) <;> rfl); (· (first | exact Less_spec ..)); try (simp (maxSteps := 1000000) (disch := first | exact dq | fail) only [go_sem, ej, ej2, hlg, g1])) | fail)
      all_goals (try omega)
      refine ⟨j + 1, ⟨hI, hex, fun h => by omega, hjs⟩, wk_by [0] ?_⟩
      (simp (maxSteps := 1000000) (disch := first | exact dq | fail) only [go_sem, ej, ej2])
  rintro j ⟨hI, hex, hex2, hjs⟩
  have hib := hI.ij
  have hjb := hI.jb
  have hi0 := hI.i0
  have hlg := rowF_len n g
  have g1 := rowF_get g (show a < n by omega)
  obtain ⟨j, rfl⟩ : ∃ k, j = k + 1 := ⟨j - 1, by omega⟩
  have ej : ((j + 1 : Nat) : Int) - 1 = j := by omega
  have ej2 : (j : Int) + 1 - 1 = j := by omega
  have g2 := rowF_get g (show j < n by omega)
  (simp (maxSteps := 1000000) (disch := first | exact dq | fail) only [go_sem, ej, ej2])
  by_cases hlt : i < j + 1
  · have g3 := rowF_get g (show i < n by omega)
    have hs := swp_row n g i j
    have hr := swp_get g (i := i) (show j < n by omega)
    have hsw := hI.swap hlt (hex hlt) (hex2 hlt)
    rw [Nat.add_sub_cancel] at hsw
    obtain ⟨hlt2, hst2⟩ := hsw
    (repeat' first
  | ((with_reducible first | refine Nx.go ?_ | refine rP ?_ | refine And.intro ?_ ?_ | fail) <;> try (simp (maxSteps := 1000000) (disch := first | exact dq | fail) only [go_sem, ej, ej2, hlg, g2, g3, hs, hr]))
  | ((with_reducible refine Sp.go ?_ ?_) <;> intro h <;> (try (simp (maxSteps := 1000000) (disch := first | exact dq | fail) only [go_sem] at h)) <;> try (simp (maxSteps := 1000000) (disch := first | exact dq | fail) only [go_sem, h, ej, ej2, hlg, g2, g3, hs, hr])) | fail)
    all_goals (try omega)
    refine ⟨(i + 1, j, swp g i j), hst2, wk_by [0] ?_, by dsimp only; omega⟩
    (simp (maxSteps := 1000000) (disch := first | exact dq | fail) only [go_sem])
  · have hd : (∀ q, a ≤ q → q < i → g q = p) ∧ (∀ q, i ≤ q → q < b → p < g q) := by
      refine ⟨fun q h1 h2 => ?_, fun q h1 h2 => ?_⟩
      · by_cases e : q = a
        · rw [e]; exact hI.ga
        · have h3 : ¬ p < g q := hI.lo q (by omega) h2
          have h4 := hI.sw.all (p := fun x => p ≤ x) hlow q h1 (by omega)
          omega
      · have h3 : ¬ ¬ p < g q := hI.hi q (by omega) h2
        exact Decidable.not_not.1 h3
    (repeat' first
  | ((with_reducible first | refine Nx.go ?_ | refine rP ?_ | refine And.intro ?_ ?_ | fail) <;> try (simp (maxSteps := 1000000) (disch := first | exact dq | fail) only [go_sem, ej, ej2, hlg]))
  | ((with_reducible refine Sp.go ?_ ?_) <;> intro h <;> (try (simp (maxSteps := 1000000) (disch := first | exact dq | fail) only [go_sem] at h)) <;> try (simp (maxSteps := 1000000) (disch := first | exact dq | fail) only [go_sem, h, ej, ej2, hlg])) | fail)
    all_goals (try omega)
    refine ⟨_, _, ⟨g, rfl, i, rfl, by omega, hI.sw, hd⟩, fin_k [0] ?_⟩
    (simp (maxSteps := 1000000) (disch := first | exact dq | fail) only [go_sem])
end Go.Proofs.Ytnijpeeehnnipaa.AM

set_option linter.unusedVariables false
set_option linter.unusedSimpArgs false
set_option maxRecDepth 20000
namespace Go.Proofs.Ytnijpeeehnnipaa.AM
open Go Go.RowKit

theorem Srt.more {g : Nat → Int} {a i : Nat} (h : Srt g a i) (hi : a < i) (hl : g (i - 1) ≤ g i) : Srt g a (i + 1) := by
  intro p q h1 h2 h3
  by_cases e : q = i
  · subst e
    by_cases e2 : p = q - 1
    · rw [e2]; exact hl
    · have := h p (q - 1) h1 (by omega) (by omega); omega
  · exact h p q h1 h2 (by omega)
set_option maxHeartbeats 8000000 in
theorem partIns_spec (n a b : Nat) (f : Nat → Int) (hab : a < b) (hb : b ≤ n) (hn : n ≤ 1000000) (hlow : Low f a b) :
    RCalls Try.prog 87 [.msl 0 0 n n, .iv (.int .i64 a), .iv (.int .i64 b)] (rwM n f)
      (fun r M' => ∃ g, M' = rwM n g ∧ ∃ v : Bool, r = .iv (.bool v) ∧ Sw a b f g ∧ (v = true → Srt g a b)) := by
  refine RCalls.of_aw Try.func87 rfl (by unfold Callable; kernel_rfl) (by kernel_rfl) (by simp [Try.ntmps87]) (by rintro _ _ ⟨_, rfl, _⟩; exact Nat.le_refl _) ?_; rw [Try.ntmps87, Try.results87]; (simp (maxSteps := 1000000) (disch := first | exact dq | fail) only [go_sem])
  (repeat' (first | refine Nx.go ?_ | fail) <;> try (simp (maxSteps := 1000000) (disch := first | exact dq | fail) only [go_sem]))
  all_goals (try omega)
  refine aw_loop (α := Nat × Nat × (Nat → Int)) (fun x => ⟨133, sl [(0, .msl 0 0 n n), (1, .iv (.int .i64 a)), (2, .iv (.int .i64 b)), (6, .iv (.bool false)), (7, .iv (.int .i64 x.1)), (8, .iv (.int .i64 x.2.1))], rwM n x.2.2, 1⟩)
    (fun x => (a + 1 ≤ x.1 ∧ x.1 ≤ b) ∧ x.2.1 ≤ 5 ∧ Sw a b f x.2.2 ∧ Srt x.2.2 a x.1) (fun x => 5 - x.2.1) (a + 1, 0, f) (wk_by [0] ?_) ⟨by dsimp only; omega, by dsimp only; omega, .refl, Srt.small _ (Nat.le_refl _)⟩ ?_
  · (simp (maxSteps := 1000000) (disch := first | exact dq | fail) only [go_sem])
  rintro ⟨i, jo, g⟩ ⟨hi, hjo, hsw, hst⟩
  dsimp only at hi hjo hsw hst
  by_cases hj5 : jo < 5
  · (repeat' first
  | ((first | refine Nx.go ?_ | fail) <;> try (simp (maxSteps := 1000000) (disch := first | exact dq | fail) only [go_sem]))
  | ((with_reducible refine Sp.go ?_ ?_) <;> intro h <;> (try (simp (maxSteps := 1000000) (disch := first | exact dq | fail) only [go_sem] at h)) <;> try (simp (maxSteps := 1000000) (disch := first | exact dq | fail) only [go_sem, h])) | fail)
    all_goals (try omega)
    refine aw_postE (β := Nat) (fun i => ⟨133, sl [(0, .msl 0 0 n n), (1, .iv (.int .i64 a)), (2, .iv (.int .i64 b)), (6, .iv (.bool false)), (7, .iv (.int .i64 i)), (8, .iv (.int .i64 jo))], rwM n g, 1⟩)
      (fun i => (a + 1 ≤ i ∧ i ≤ b) ∧ Srt g a i ∧ (i < b → g i < g (i - 1))) ?_ ?_
    · refine aw_loop (α := Nat) (fun i => ⟨133, sl [(0, .msl 0 0 n n), (1, .iv (.int .i64 a)), (2, .iv (.int .i64 b)), (6, .iv (.bool false)), (7, .iv (.int .i64 i)), (8, .iv (.int .i64 jo))], rwM n g, 1⟩)
        (fun i => (a + 1 ≤ i ∧ i ≤ b) ∧ Srt g a i) (fun i => b - i) i (wk_by [0] ?_) ⟨hi, hst⟩ ?_
      · (simp (maxSteps := 1000000) (disch := first | exact dq | fail) only [go_sem])
      rintro i ⟨hi, hst⟩
      have hl := rowF_len n g
      have e1 : ((i : Int) - 1).toNat = i - 1 := by omega
      have g1 := rowF_get g (show i - 1 < n by omega)
      by_cases hlt : i < b
      · have g2 := rowF_get g (show i < n by omega)
        by_cases hless : g i < g (i - 1)
        · (repeat' first
  | ((with_reducible first | refine Nx.go ?_ | refine rP ?_ | refine And.intro ?_ ?_ | fail) <;> try (simp (maxSteps := 1000000) (disch := first | exact dq | fail) only [go_sem, e1, hl, g1, g2, hless, decide_true, decide_false]))
  | ((with_reducible refine Sp.go ?_ ?_) <;> intro h <;> (try (simp (maxSteps := 1000000) (disch := first | exact dq | fail) only [go_sem] at h)) <;> try (simp (maxSteps := 1000000) (disch := first | exact dq | fail) only [go_sem, h, e1, hl, g1, g2, hless, decide_true, decide_false]))
  | ((first | with_reducible apply left_callf | with_reducible apply leftD_callf); (· with_reducible rfl); (· (simp (maxSteps := 1000000) (disch := first | exact dq | fail) only [go_sem, e1, hl, g1, g2, hless, decide_true, decide_false]) <;> rfl); (· (first | exact Less_spec ..)); try (simp (maxSteps := 1000000) (disch := first | exact dq | fail) only [go_sem, e1, hl, g1, g2, hless, decide_true, decide_false])) | fail)
          all_goals (try omega)
          refine ⟨i, ⟨hi, hst, fun _ => hless⟩, wk_by [0] ?_⟩
          (simp (maxSteps := 1000000) (disch := first | exact dq | fail) only [go_sem])
        · (repeat' first
  | ((with_reducible first | refine Nx.go ?_ | refine rP ?_ | refine And.intro ?_ ?_ | fail) <;> try (simp (maxSteps := 1000000) (disch := first | exact dq | fail) only [go_sem, e1, hl, g1, g2, hless, decide_true, decide_false]))
  | ((with_reducible refine Sp.go ?_ ?_) <;> intro h <;> (try (simp (maxSteps := 1000000) (disch := first | exact dq | fail) only [go_sem] at h)) <;> try (simp (maxSteps := 1000000) (disch := first | exact dq | fail) only [go_sem, h, e1, hl, g1, g2, hless, decide_true, decide_false]))
  | ((first | with_reducible apply left_callf | with_reducible apply leftD_callf); (· with_reducible rfl); (· (simp (maxSteps := 1000000) (disch := first | exact dq | fail) only [go_sem, e1, hl, g1, g2, hless, decide_true, decide_false]) <;> rfl); (· (first | exact Less_spec ..)); try (simp (maxSteps := 1000000) (disch := first | exact dq | fail) only [go_sem, e1, hl, g1, g2, hless, decide_true, decide_false])) | fail)
          all_goals (try omega)
          refine ⟨i + 1, ⟨by omega, hst.more (by omega) (by omega)⟩, wk_by [0] ?_, by omega⟩
          (simp (maxSteps := 1000000) (disch := first | exact dq | fail) only [go_sem])
      · (repeat' first
  | ((with_reducible first | refine Nx.go ?_ | refine rP ?_ | refine And.intro ?_ ?_ | fail) <;> try (simp (maxSteps := 1000000) (disch := first | exact dq | fail) only [go_sem, hl]))
  | ((with_reducible refine Sp.go ?_ ?_) <;> intro h <;> (try (simp (maxSteps := 1000000) (disch := first | exact dq | fail) only [go_sem] at h)) <;> try (simp (maxSteps := 1000000) (disch := first | exact dq | fail) only [go_sem, h, hl]))
  | ((first | with_reducible apply left_callf | with_reducible apply leftD_callf); (· with_reducible rfl); (· (simp (maxSteps := 1000000) (disch := first | exact dq | fail) only [go_sem, hl]) <;> rfl); (· (first | exact Less_spec ..)); try (simp (maxSteps := 1000000) (disch := first | exact dq | fail) only [go_sem, hl])) | fail)
        all_goals (try omega)
        refine ⟨i, ⟨hi, hst, fun h => by omega⟩, wk_by [0] ?_⟩
        (simp (maxSteps := 1000000) (disch := first | exact dq | fail) only [go_sem])
    clear hst hi
    rintro i ⟨hi, hst, hex⟩
    (simp (maxSteps := 1000000) (disch := first | exact dq | fail) only [go_sem])
    by_cases hib : i = b
    · subst hib
      (repeat' (first | refine Nx.go ?_ | fail) <;> try (simp (maxSteps := 1000000) (disch := first | exact dq | fail) only [go_sem]))
      all_goals (try omega)
      refine ⟨_, _, ⟨g, rfl, true, rfl, hsw, fun _ => hst⟩, fin_k [0] ?_⟩
      (simp (maxSteps := 1000000) (disch := first | exact dq | fail) only [go_sem])
    have c0 : ¬ ((i : Int) = b) := by omega
    by_cases h50 : b - a < 50
    · have c1 : ((b : Int) - a < 50) := by omega
      (repeat' (first | refine Nx.go ?_ | fail) <;> try (simp (maxSteps := 1000000) (disch := first | exact dq | fail) only [go_sem, c0, c1, decide_true, decide_false]))
      all_goals (try omega)
      refine ⟨_, _, ⟨g, rfl, false, rfl, hsw, fun h => by cases h⟩, fin_k [0] ?_⟩
      (simp (maxSteps := 1000000) (disch := first | exact dq | fail) only [go_sem])
    have c1 : ¬ ((b : Int) - a < 50) := by omega
    have hl := rowF_len n g
    have e1 : ((i : Int) - 1).toNat = i - 1 := by omega
    have g1 := rowF_get g (show i - 1 < n by omega)
    have g2 := rowF_get g (show i < n by omega)
    have hs := swp_row n g i (i - 1)
    have hr := swp_get g (i := i) (show i - 1 < n by omega)
    have hsw' := hsw.swap i (i - 1) (by omega) (by omega)
    have hst' : Srt (swp g i (i - 1)) a (i - 1) := fun p q h1 h2 h3 => by rw [swp_ne _ (by omega) (by omega), swp_ne _ (by omega) (by omega)]; exact hst p q h1 h2 (by omega)
    clear hst
    by_cases h2 : a + 2 ≤ i
    · have c2 : ((i : Int) - a ≥ 2) := by omega
      (repeat' (with_reducible first | refine Nx.go ?_ | refine rP ?_ | refine And.intro ?_ ?_ | fail) <;> try (simp (maxSteps := 1000000) (disch := first | exact dq | fail) only [go_sem, c0, c1, c2, e1, hl, g1, g2, hs, hr, decide_true, decide_false]))
      all_goals (try omega)
      refine aw_postE (β := Nat → Int) (fun g => ⟨133, sl [(0, .msl 0 0 n n), (1, .iv (.int .i64 a)), (2, .iv (.int .i64 b)), (6, .iv (.bool false)), (7, .iv (.int .i64 i)), (8, .iv (.int .i64 jo))], rwM n g, 1⟩)
        (fun g => Sw a b f g ∧ Srt g a i) ?_ ?_
      · refine aw_loop (α := Nat × (Nat → Int)) (fun x => ⟨133, sl [(0, .msl 0 0 n n), (1, .iv (.int .i64 a)), (2, .iv (.int .i64 b)), (6, .iv (.bool false)), (7, .iv (.int .i64 i)), (8, .iv (.int .i64 jo)), (9, .iv (.int .i64 x.1))], rwM n x.2, 1⟩)
          (fun x => (a ≤ x.1 ∧ x.1 ≤ i - 1) ∧ Sw a b f x.2 ∧ InsI x.2 a (i - 1) x.1) (fun x => x.1) (i - 1, swp g i (i - 1)) (wk_by [0] ?_) ⟨by dsimp only; omega, hsw', InsI.start hst'⟩ ?_
        · (simp (maxSteps := 1000000) (disch := first | exact dq | fail) only [go_sem])
          congr 2; omega
        clear hs hr hsw' hst' g1 g2 hl hsw hex e1
        rintro ⟨j, g⟩ ⟨hj, hsw, hins⟩
        dsimp only at hj hsw hins
        have hl := rowF_len n g
        have g2 := rowF_get g (show j < n by omega)
        by_cases hj0 : 1 ≤ j
        · have ej : ((j : Int) - 1).toNat = j - 1 := by omega
          have g1 := rowF_get g (show j - 1 < n by omega)
          have hs := swp_row n g j (j - 1)
          have hr := swp_get g (i := j) (show j - 1 < n by omega)
          by_cases hless : g j < g (j - 1)
          · have haj : a < j := by
              rcases Nat.lt_or_ge a j with h | h
              · exact h
              · have e : a = j := by omega
                subst e
                rcases hlow.sw hsw with h0 | h0
                · omega
                · have := h0 a (Nat.le_refl _) (by omega); omega
            (repeat' first
  | ((with_reducible first | refine Nx.go ?_ | refine rP ?_ | refine And.intro ?_ ?_ | fail) <;> try (simp (maxSteps := 1000000) (disch := first | exact dq | fail) only [go_sem, ej, hl, g1, g2, hs, hr, hless, decide_true, decide_false]))
  | ((with_reducible refine Sp.go ?_ ?_) <;> intro h <;> (try (simp (maxSteps := 1000000) (disch := first | exact dq | fail) only [go_sem] at h)) <;> try (simp (maxSteps := 1000000) (disch := first | exact dq | fail) only [go_sem, h, ej, hl, g1, g2, hs, hr, hless, decide_true, decide_false]))
  | ((first | with_reducible apply left_callf | with_reducible apply leftD_callf); (· with_reducible rfl); (· (simp (maxSteps := 1000000) (disch := first | exact dq | fail) only [go_sem, ej, hl, g1, g2, hs, hr, hless, decide_true, decide_false]) <;> rfl); (· (first | exact Less_spec ..)); try (simp (maxSteps := 1000000) (disch := first | exact dq | fail) only [go_sem, ej, hl, g1, g2, hs, hr, hless, decide_true, decide_false])) | fail)
            all_goals (try omega)
            refine ⟨(j - 1, swp g j (j - 1)), ⟨by dsimp only; omega, hsw.swap _ _ (by omega) (by omega), hins.step (by omega) haj hless⟩, wk_by [0] ?_, by dsimp only; omega⟩
            (simp (maxSteps := 1000000) (disch := first | exact dq | fail) only [go_sem])
            congr 2; omega
          · have hd := hins.done (by omega) (.inr (by omega)) hj.1
            rw [show i - 1 + 1 = i by omega] at hd
            (repeat' first
  | ((with_reducible first | refine Nx.go ?_ | refine rP ?_ | refine And.intro ?_ ?_ | fail) <;> try (simp (maxSteps := 1000000) (disch := first | exact dq | fail) only [go_sem, ej, hl, g1, g2, hless, decide_true, decide_false]))
  | ((with_reducible refine Sp.go ?_ ?_) <;> intro h <;> (try (simp (maxSteps := 1000000) (disch := first | exact dq | fail) only [go_sem] at h)) <;> try (simp (maxSteps := 1000000) (disch := first | exact dq | fail) only [go_sem, h, ej, hl, g1, g2, hless, decide_true, decide_false]))
  | ((first | with_reducible apply left_callf | with_reducible apply leftD_callf); (· with_reducible rfl); (· (simp (maxSteps := 1000000) (disch := first | exact dq | fail) only [go_sem, ej, hl, g1, g2, hless, decide_true, decide_false]) <;> rfl); (· (first | exact Less_spec ..)); try (simp (maxSteps := 1000000) (disch := first | exact dq | fail) only [go_sem, ej, hl, g1, g2, hless, decide_true, decide_false])) | fail)
            all_goals (try omega)
            refine ⟨g, ⟨hsw, hd⟩, wk_by [0] ?_⟩
            (simp (maxSteps := 1000000) (disch := first | exact dq | fail) only [go_sem])
        · have hd := hins.done (by omega) (.inl (by omega)) hj.1
          rw [show i - 1 + 1 = i by omega] at hd
          (repeat' first
  | ((with_reducible first | refine Nx.go ?_ | refine rP ?_ | refine And.intro ?_ ?_ | fail) <;> try (simp (maxSteps := 1000000) (disch := first | exact dq | fail) only [go_sem, hl]))
  | ((with_reducible refine Sp.go ?_ ?_) <;> intro h <;> (try (simp (maxSteps := 1000000) (disch := first | exact dq | fail) only [go_sem] at h)) <;> try (simp (maxSteps := 1000000) (disch := first | exact dq | fail) only [go_sem, h, hl]))
  | ((first | with_reducible apply left_callf | with_reducible apply leftD_callf); (· with_reducible rfl); (· (simp (maxSteps := 1000000) (disch := first | exact dq | fail) only [go_sem, hl]) <;> rfl); (· (first | exact Less_spec ..)); try (simp (maxSteps := 1000000) (disch := first | exact dq | fail) only [go_sem, hl])) | fail)
          all_goals (try omega)
          refine ⟨g, ⟨hsw, hd⟩, wk_by [0] ?_⟩
          (simp (maxSteps := 1000000) (disch := first | exact dq | fail) only [go_sem])
      clear hs hr hsw' hst' g1 g2 hl hsw hex e1
      rintro g ⟨hsw, hst⟩
      (simp (maxSteps := 1000000) (disch := first | exact dq | fail) only [go_sem])
      by_cases hbi : i + 1 < b
      · have c2 : ((b : Int) - i ≥ 2) := by omega
        (repeat' (first | refine Nx.go ?_ | fail) <;> try (simp (maxSteps := 1000000) (disch := first | exact dq | fail) only [go_sem, c2, decide_true, decide_false]))
        all_goals (try omega)
        refine aw_loop (α := Nat × (Nat → Int)) (fun x => ⟨133, sl [(0, .msl 0 0 n n), (1, .iv (.int .i64 a)), (2, .iv (.int .i64 b)), (6, .iv (.bool false)), (7, .iv (.int .i64 i)), (8, .iv (.int .i64 jo)), (10, .iv (.int .i64 x.1))], rwM n x.2, 1⟩)
          (fun x => (i + 1 ≤ x.1 ∧ x.1 ≤ b) ∧ Sw a b f x.2 ∧ Srt x.2 a i) (fun x => b - x.1) (i + 1, g) (wk_by [0] ?_) ⟨by dsimp only; omega, hsw, hst⟩ ?_
        · (simp (maxSteps := 1000000) (disch := first | exact dq | fail) only [go_sem])
        rintro ⟨j, g⟩ ⟨hj, hsw, hst⟩
        dsimp only at hj hsw hst
        have hl := rowF_len n g
        obtain ⟨j, rfl⟩ : ∃ k, j = k + 1 := ⟨j - 1, by omega⟩
        have ej : ((j + 1 : Nat) : Int) - 1 = j := by omega
        have ej2 : (j : Int) + 1 - 1 = j := by omega
        have ej3 : ((j : Int) + 1).toNat = j + 1 := by omega
        have g1 := rowF_get g (show j < n by omega)
        by_cases hlt : j + 1 < b
        · have g2 := rowF_get g (show j + 1 < n by omega)
          have hs := swp_row n g (j + 1) j
          have hr := swp_get g (i := j + 1) (show j < n by omega)
          by_cases hless : g (j + 1) < g j
          · (repeat' first
  | ((with_reducible first | refine Nx.go ?_ | refine rP ?_ | refine And.intro ?_ ?_ | fail) <;> try (simp (maxSteps := 1000000) (disch := first | exact dq | fail) only [go_sem, ej, ej2, ej3, hl, g1, g2, hs, hr, hless, decide_true, decide_false]))
  | ((with_reducible refine Sp.go ?_ ?_) <;> intro h <;> (try (simp (maxSteps := 1000000) (disch := first | exact dq | fail) only [go_sem] at h)) <;> try (simp (maxSteps := 1000000) (disch := first | exact dq | fail) only [go_sem, h, ej, ej2, ej3, hl, g1, g2, hs, hr, hless, decide_true, decide_false]))
  | ((first | with_reducible apply left_callf | with_reducible apply leftD_callf); (· with_reducible rfl); (· (simp (maxSteps := 1000000) (disch := first | exact dq | fail) only [go_sem, ej, ej2, ej3, hl, g1, g2, hs, hr, hless, decide_true, decide_false]) <;> rfl); (· (first | exact Less_spec ..)); try (simp (maxSteps := 1000000) (disch := first | exact dq | fail) only [go_sem, ej, ej2, ej3, hl, g1, g2, hs, hr, hless, decide_true, decide_false])) | fail)
            all_goals (try omega)
            refine ⟨(j + 2, swp g (j + 1) j), ⟨by dsimp only; omega, hsw.swap _ _ (by omega) (by omega), fun p q h1 h2 h3 => by dsimp only; rw [swp_ne _ (by omega) (by omega), swp_ne _ (by omega) (by omega)]; exact hst p q h1 h2 h3⟩, wk_by [0] ?_, by dsimp only; omega⟩
            (simp (maxSteps := 1000000) (disch := first | exact dq | fail) only [go_sem])
            congr 2
          · (repeat' first
  | ((with_reducible first | refine Nx.go ?_ | refine rP ?_ | refine And.intro ?_ ?_ | fail) <;> try (simp (maxSteps := 1000000) (disch := first | exact dq | fail) only [go_sem, ej, ej2, ej3, hl, g1, g2, hless, decide_true, decide_false]))
  | ((with_reducible refine Sp.go ?_ ?_) <;> intro h <;> (try (simp (maxSteps := 1000000) (disch := first | exact dq | fail) only [go_sem] at h)) <;> try (simp (maxSteps := 1000000) (disch := first | exact dq | fail) only [go_sem, h, ej, ej2, ej3, hl, g1, g2, hless, decide_true, decide_false]))
  | ((first | with_reducible apply left_callf | with_reducible apply leftD_callf); (· with_reducible rfl); (· (simp (maxSteps := 1000000) (disch := first | exact dq | fail) only [go_sem, ej, ej2, ej3, hl, g1, g2, hless, decide_true, decide_false]) <;> rfl); (· (first | exact Less_spec ..)); try (simp (maxSteps := 1000000) (disch := first | exact dq | fail) only [go_sem, ej, ej2, ej3, hl, g1, g2, hless, decide_true, decide_false])) | fail)
            all_goals (try omega)
            refine ⟨(i, jo + 1, g), ⟨by dsimp only; omega, by dsimp only; omega, hsw, hst⟩, wk_by [0] ?_, by dsimp only; omega⟩
            (simp (maxSteps := 1000000) (disch := first | exact dq | fail) only [go_sem])
        · (repeat' first
  | ((with_reducible first | refine Nx.go ?_ | refine rP ?_ | refine And.intro ?_ ?_ | fail) <;> try (simp (maxSteps := 1000000) (disch := first | exact dq | fail) only [go_sem, hl]))
  | ((with_reducible refine Sp.go ?_ ?_) <;> intro h <;> (try (simp (maxSteps := 1000000) (disch := first | exact dq | fail) only [go_sem] at h)) <;> try (simp (maxSteps := 1000000) (disch := first | exact dq | fail) only [go_sem, h, hl]))
  | ((first | with_reducible apply left_callf | with_reducible apply leftD_callf); (· with_reducible rfl); (· (simp (maxSteps := 1000000) (disch := first | exact dq | fail) only [go_sem, hl]) <;> rfl); (· (first | exact Less_spec ..)); try (simp (maxSteps := 1000000) (disch := first | exact dq | fail) only [go_sem, hl])) | fail)
          all_goals (try omega)
          refine ⟨(i, jo + 1, g), ⟨by dsimp only; omega, by dsimp only; omega, hsw, hst⟩, wk_by [0] ?_, by dsimp only; omega⟩
          (simp (maxSteps := 1000000) (disch := first | exact dq | fail) only [go_sem])
      · have c2 : ¬ ((b : Int) - i ≥ 2) := by omega
        (repeat' (first | refine Nx.go ?_ | fail) <;> try (simp (maxSteps := 1000000) (disch := first | exact dq | fail) only [go_sem, c2, decide_true, decide_false]))
        all_goals (try omega)
        refine ⟨(i, jo + 1, g), ⟨by dsimp only; omega, by dsimp only; omega, hsw, hst⟩, wk_by [0] ?_, by dsimp only; omega⟩
        (simp (maxSteps := 1000000) (disch := first | exact dq | fail) only [go_sem])
    · have c3 : ¬ ((i : Int) - a ≥ 2) := by omega
      have hst : Srt (swp g i (i - 1)) a i := Srt.small _ (by omega)
      have hsw := hsw'
      by_cases hbi : i + 1 < b
      · have c2 : ((b : Int) - i ≥ 2) := by omega
        (repeat' (with_reducible first | refine Nx.go ?_ | refine rP ?_ | refine And.intro ?_ ?_ | fail) <;> try (simp (maxSteps := 1000000) (disch := first | exact dq | fail) only [go_sem, c0, c1, c3, e1, hl, g1, g2, hs, hr, c2, decide_true, decide_false]))
        all_goals (try omega)
        refine aw_loop (α := Nat × (Nat → Int)) (fun x => ⟨133, sl [(0, .msl 0 0 n n), (1, .iv (.int .i64 a)), (2, .iv (.int .i64 b)), (6, .iv (.bool false)), (7, .iv (.int .i64 i)), (8, .iv (.int .i64 jo)), (10, .iv (.int .i64 x.1))], rwM n x.2, 1⟩)
          (fun x => (i + 1 ≤ x.1 ∧ x.1 ≤ b) ∧ Sw a b f x.2 ∧ Srt x.2 a i) (fun x => b - x.1) (i + 1, swp g i (i - 1)) (wk_by [0] ?_) ⟨by dsimp only; omega, hsw, hst⟩ ?_
        · (simp (maxSteps := 1000000) (disch := first | exact dq | fail) only [go_sem])
        rintro ⟨j, g⟩ ⟨hj, hsw, hst⟩
        dsimp only at hj hsw hst
        have hl := rowF_len n g
        obtain ⟨j, rfl⟩ : ∃ k, j = k + 1 := ⟨j - 1, by omega⟩
        have ej : ((j + 1 : Nat) : Int) - 1 = j := by omega
        have ej2 : (j : Int) + 1 - 1 = j := by omega
        have ej3 : ((j : Int) + 1).toNat = j + 1 := by omega
        have g1 := rowF_get g (show j < n by omega)
        by_cases hlt : j + 1 < b
        · have g2 := rowF_get g (show j + 1 < n by omega)
          have hs := swp_row n g (j + 1) j
          have hr := swp_get g (i := j + 1) (show j < n by omega)
          by_cases hless : g (j + 1) < g j
          · (repeat' first
  | ((with_reducible first | refine Nx.go ?_ | refine rP ?_ | refine And.intro ?_ ?_ | fail) <;> try (simp (maxSteps := 1000000) (disch := first | exact dq | fail) only [go_sem, ej, ej2, ej3, hl, g1, g2, hs, hr, hless, decide_true, decide_false]))
  | ((with_reducible refine Sp.go ?_ ?_) <;> intro h <;> (try (simp (maxSteps := 1000000) (disch := first | exact dq | fail) only [go_sem] at h)) <;> try (simp (maxSteps := 1000000) (disch := first | exact dq | fail) only [go_sem, h, ej, ej2, ej3, hl, g1, g2, hs, hr, hless, decide_true, decide_false]))
  | ((first | with_reducible apply left_callf | with_reducible apply leftD_callf); (· with_reducible rfl); (· (simp (maxSteps := 1000000) (disch := first | exact dq | fail) only [go_sem, ej, ej2, ej3, hl, g1, g2, hs, hr, hless, decide_true, decide_false]) <;> rfl); (· (first | exact Less_spec ..)); try (simp (maxSteps := 1000000) (disch := first | exact dq | fail) only [go_sem, ej, ej2, ej3, hl, g1, g2, hs, hr, hless, decide_true, decide_false])) | fail)
            all_goals (try omega)
            refine ⟨(j + 2, swp g (j + 1) j), ⟨by dsimp only; omega, hsw.swap _ _ (by omega) (by omega), fun p q h1 h2 h3 => by dsimp only; rw [swp_ne _ (by omega) (by omega), swp_ne _ (by omega) (by omega)]; exact hst p q h1 h2 h3⟩, wk_by [0] ?_, by dsimp only; omega⟩
            (simp (maxSteps := 1000000) (disch := first | exact dq | fail) only [go_sem])
            congr 2
          · (repeat' first
  | ((with_reducible first | refine Nx.go ?_ | refine rP ?_ | refine And.intro ?_ ?_ | fail) <;> try (simp (maxSteps := 1000000) (disch := first | exact dq | fail) only [go_sem, ej, ej2, ej3, hl, g1, g2, hless, decide_true, decide_false]))
  | ((with_reducible refine Sp.go ?_ ?_) <;> intro h <;> (try (simp (maxSteps := 1000000) (disch := first | exact dq | fail) only [go_sem] at h)) <;> try (simp (maxSteps := 1000000) (disch := first | exact dq | fail) only [go_sem, h, ej, ej2, ej3, hl, g1, g2, hless, decide_true, decide_false]))
  | ((first | with_reducible apply left_callf | with_reducible apply leftD_callf); (· with_reducible rfl); (· (simp (maxSteps := 1000000) (disch := first | exact dq | fail) only [go_sem, ej, ej2, ej3, hl, g1, g2, hless, decide_true, decide_false]) <;> rfl); (· (first | exact Less_spec ..)); try (simp (maxSteps := 1000000) (disch := first | exact dq | fail) only [go_sem, ej, ej2, ej3, hl, g1, g2, hless, decide_true, decide_false])) | fail)
            all_goals (try omega)
            refine ⟨(i, jo + 1, g), ⟨by dsimp only; omega, by dsimp only; omega, hsw, hst⟩, wk_by [0] ?_, by dsimp only; omega⟩
            (simp (maxSteps := 1000000) (disch := first | exact dq | fail) only [go_sem])
        · (repeat' first
  | ((with_reducible first | refine Nx.go ?_ | refine rP ?_ | refine And.intro ?_ ?_ | fail) <;> try (simp (maxSteps := 1000000) (disch := first | exact dq | fail) only [go_sem, hl]))
  | ((with_reducible refine Sp.go ?_ ?_) <;> intro h <;> (try (simp (maxSteps := 1000000) (disch := first | exact dq | fail) only [go_sem] at h)) <;> try (simp (maxSteps := 1000000) (disch := first | exact dq | fail) only [go_sem, h, hl]))
  | ((first | with_reducible apply left_callf | with_reducible apply leftD_callf); (· with_reducible rfl); (· (simp (maxSteps := 1000000) (disch := first | exact dq | fail) only [go_sem, hl]) <;> rfl); (· (first | exact Less_spec ..)); try (simp (maxSteps := 1000000) (disch := first | exact dq | fail) only [go_sem, hl])) | fail)
          all_goals (try omega)
          refine ⟨(i, jo + 1, g), ⟨by dsimp only; omega, by dsimp only; omega, hsw, hst⟩, wk_by [0] ?_, by dsimp only; omega⟩
          (simp (maxSteps := 1000000) (disch := first | exact dq | fail) only [go_sem])
      · exfalso; omega
  · have c5 : ¬ ((jo : Int) < 5) := by omega
    (repeat' (first | refine Nx.go ?_ | fail) <;> try (simp (maxSteps := 1000000) (disch := first | exact dq | fail) only [go_sem, c5, decide_false]))
    all_goals (try omega)
    refine ⟨_, _, ⟨g, rfl, false, rfl, hsw, fun h => by cases h⟩, fin_k [0] ?_⟩
    (simp (maxSteps := 1000000) (disch := first | exact dq | fail) only [go_sem])
end Go.Proofs.Ytnijpeeehnnipaa.AM

set_option linter.unusedVariables false
set_option linter.unusedSimpArgs false
set_option maxRecDepth 20000
namespace Go.Proofs.Ytnijpeeehnnipaa.AM
open Go Go.RowKit

theorem Low.part {g : Nat → Int} {a b a' b' : Nat} (h : Low g a b) (hp : Prs g a b a' b') (ha : a ≤ a') (hb : b' ≤ b) : Low g a' b' := by
  by_cases e : a' = a
  · subst e
    rcases h with h | h
    · exact .inl h
    · exact .inr (fun i h1 h2 => h i h1 (by omega))
  · exact .inr (fun i h1 h2 => hp (a' - 1) i (by omega) (by omega) (by omega) (by omega))
theorem Low.sub {g : Nat → Int} {a b b' : Nat} (h : Low g a b) (hb : b' ≤ b) : Low g a b' := by
  rcases h with h | h
  · exact .inl h
  · exact .inr (fun i h1 h2 => h i h1 (by omega))
theorem prs_left {g g' : Nat → Int} {a b a' b' m : Nat} (hp : Prs g a b a' b') (hm : a' ≤ m ∧ m < b') (hlo : ∀ q, a' ≤ q → q < m → g q < g m) (hhi : ∀ q, m < q → q < b' → g m ≤ g q)
    (hs : Sw a' m g g') (hst : Srt g' a' m) (ha : a ≤ a') (hb : b' ≤ b) : Prs g' a b (m + 1) b' := by
  have hp' := hp.sw (hs.mono (Nat.le_refl _) (Nat.le_of_lt hm.2)) ha hb
  intro p q h1 h2 h3 h4
  by_cases hc : p < a' ∨ b' ≤ q
  · exact hp' p q h1 h2 h3 hc
  · by_cases hpm : p < m
    · by_cases hqm : q < m
      · exact hst p q (by omega) h2 hqm
      · have e1 := hs.all (p := fun x => x < g m) hlo p (by omega) hpm
        rw [hs.out (m := q) (by omega)]
        by_cases e : q = m
        · subst e; omega
        · have := hhi q (by omega) (by omega); omega
    · have e : p = m := by omega
      subst e
      rw [hs.out (m := p) (by omega), hs.out (m := q) (by omega)]
      exact hhi q h2 (by omega)
theorem prs_right {g g' : Nat → Int} {a b a' b' m : Nat} (hp : Prs g a b a' b') (hm : a' ≤ m ∧ m < b') (hlo : ∀ q, a' ≤ q → q < m → g q < g m) (hhi : ∀ q, m < q → q < b' → g m ≤ g q)
    (hs : Sw (m + 1) b' g g') (hst : Srt g' (m + 1) b') (ha : a ≤ a') (hb : b' ≤ b) : Prs g' a b a' m := by
  have hp' := hp.sw (hs.mono (by omega) (Nat.le_refl _)) ha hb
  intro p q h1 h2 h3 h4
  by_cases hc : p < a' ∨ b' ≤ q
  · exact hp' p q h1 h2 h3 hc
  · by_cases hpm : m < p
    · exact hst p q (by omega) h2 (by omega)
    · rw [hs.out (m := p) (by omega)]
      have e0 : g p ≤ g m := by
        by_cases e : p = m
        · rw [e]; exact Int.le_refl _
        · have := hlo p (by omega) (by omega); omega
      by_cases hqm : q = m
      · subst hqm; rw [hs.out (m := q) (by omega)]; exact e0
      · have e1 := hs.all (p := fun x => g m ≤ x) (fun i h1 h2 => hhi i (by omega) h2) q (by omega) (by omega)
        omega
set_option maxHeartbeats 8000000 in
theorem pdq_spec (n : Nat) (hn : n ≤ 1000000) : ∀ (s a b lim : Nat) (f : Nat → Int), b - a = s → a ≤ b → b ≤ n → lim ≤ 1000 → Low f a b →
    RCalls Try.prog 75 [.msl 0 0 n n, .iv (.int .i64 a), .iv (.int .i64 b), .iv (.int .i64 lim)] (rwM n f) (RowS n fun r g => r = .tup [] ∧ Sw a b f g ∧ Srt g a b) := by
  intro s
  induction s using Nat.strongRecOn with
  | _ s ih =>
  intro a b lim f hs hab hb hlim hlow
  refine RCalls.of_aw Try.func75 rfl (by unfold Callable; kernel_rfl) (by kernel_rfl) (by simp [Try.ntmps75]) (by rintro _ _ ⟨_, rfl, _⟩; exact Nat.le_refl _) ?_; rw [Try.ntmps75, Try.results75]; (simp (maxSteps := 1000000) (disch := first | exact dq | fail) only [go_sem])
  (repeat' (first | refine Nx.go ?_ | fail) <;> try (simp (maxSteps := 1000000) (disch := first | exact dq | fail) only [go_sem]))
  refine aw_loop (α := Nat × Nat × Nat × Bool × Bool × (Nat → Int)) (fun x => ⟨134, sl [(0, .msl 0 0 n n), (1, .iv (.int .i64 x.1)), (2, .iv (.int .i64 x.2.1)), (3, .iv (.int .i64 x.2.2.1)), (8, .iv (.bool x.2.2.2.1)), (9, .iv (.bool x.2.2.2.2.1))], rwM n x.2.2.2.2.2, 1⟩)
    (fun x => (a ≤ x.1 ∧ x.1 ≤ x.2.1 ∧ x.2.1 ≤ b) ∧ x.2.2.1 ≤ 1000 ∧ Sw a b f x.2.2.2.2.2 ∧ Prs x.2.2.2.2.2 a b x.1 x.2.1) (fun x => x.2.1 - x.1) (a, b, lim, true, true, f) (wk_by [0] ?_) ⟨by dsimp only; omega, hlim, .refl, Prs.start _ _ _⟩ ?_
  · (simp (maxSteps := 1000000) (disch := first | exact dq | fail) only [go_sem])
  rintro ⟨a', b', lim', wb, wp, g⟩ ⟨hab', hlim', hsw, hprs⟩
  dsimp only at hab' hlim' hsw hprs
  have hlow' := (hlow.sw hsw).part hprs hab'.1 hab'.2.2
  by_cases h12 : b' - a' ≤ 12
  · have c1 : ((b' : Int) - a' ≤ 12) := by omega
    (repeat' (first | refine Nx.go ?_ | fail) <;> try (simp (maxSteps := 1000000) (disch := first | exact dq | fail) only [go_sem, c1, decide_true]))
    all_goals (try omega)
    ((with_reducible refine left_callRs [0] (insertion_spec n a' b' g hab'.2.1 (by omega) hn) ?_ ?_); (· (simp (maxSteps := 1000000) (disch := first | exact dq | fail) only [go_sem])))
    rintro _ _ ⟨g', rfl, rfl, hsw', hst'⟩
    (simp (maxSteps := 1000000) (disch := first | exact dq | fail) only [go_sem])
    (repeat' (first | refine Nx.go ?_ | fail) <;> try (simp (maxSteps := 1000000) (disch := first | exact dq | fail) only [go_sem]))
    all_goals (try omega)
    refine ⟨_, _, ⟨g', rfl, rfl, hsw.trans (hsw'.mono hab'.1 hab'.2.2), (hprs.sw hsw' hab'.1 hab'.2.2).done hst'⟩, fin_k [0] ?_⟩
    (simp (maxSteps := 1000000) (disch := first | exact dq | fail) only [go_sem])
  have c1 : ¬ ((b' : Int) - a' ≤ 12) := by omega
  by_cases hl0 : lim' = 0
  · have c2 : ((lim' : Int) = 0) := by omega
    (repeat' (first | refine Nx.go ?_ | fail) <;> try (simp (maxSteps := 1000000) (disch := first | exact dq | fail) only [go_sem, c1, c2, decide_true, decide_false]))
    all_goals (try omega)
    ((with_reducible refine left_callRs [0] (heapSort_spec n a' b' g (by omega) (by omega) hn) ?_ ?_); (· (simp (maxSteps := 1000000) (disch := first | exact dq | fail) only [go_sem])))
    rintro _ _ ⟨g', rfl, rfl, hsw', hst'⟩
    (simp (maxSteps := 1000000) (disch := first | exact dq | fail) only [go_sem])
    (repeat' (first | refine Nx.go ?_ | fail) <;> try (simp (maxSteps := 1000000) (disch := first | exact dq | fail) only [go_sem]))
    all_goals (try omega)
    refine ⟨_, _, ⟨g', rfl, rfl, hsw.trans (hsw'.mono hab'.1 hab'.2.2), (hprs.sw hsw' hab'.1 hab'.2.2).done hst'⟩, fin_k [0] ?_⟩
    (simp (maxSteps := 1000000) (disch := first | exact dq | fail) only [go_sem])
  have c2 : ¬ ((lim' : Int) = 0) := by omega
  -- the length, and neither short nor bad
  with_reducible refine aw_block ?_
  ((with_reducible refine aw_seq ?_); (with_reducible refine aw_region (aops_run ?_)); try (simp (maxSteps := 1000000) (disch := first | exact dq | fail) only [go_sem]))
  refine aw_cut ⟨134, sl [(0, .msl 0 0 n n), (1, .iv (.int .i64 a')), (2, .iv (.int .i64 b')), (3, .iv (.int .i64 lim')), (8, .iv (.bool wb)), (9, .iv (.bool wp)), (10, .iv (.int .i64 ((b' : Int) - a')))], rwM n g, 1⟩ ?_ ?_
  · (repeat' (first | refine Nx.go ?_ | fail) <;> try (simp (maxSteps := 1000000) (disch := first | exact dq | fail) only [go_sem, c1, decide_true, decide_false]))
    refine wk_by [0] ?_
    (simp (maxSteps := 1000000) (disch := first | exact dq | fail) only [go_sem])
  refine aw_cut ⟨134, sl [(0, .msl 0 0 n n), (1, .iv (.int .i64 a')), (2, .iv (.int .i64 b')), (3, .iv (.int .i64 lim')), (8, .iv (.bool wb)), (9, .iv (.bool wp)), (10, .iv (.int .i64 ((b' : Int) - a')))], rwM n g, 1⟩ ?_ ?_
  · (repeat' (first | refine Nx.go ?_ | fail) <;> try (simp (maxSteps := 1000000) (disch := first | exact dq | fail) only [go_sem, c2, decide_true, decide_false]))
    refine wk_by [0] ?_
    (simp (maxSteps := 1000000) (disch := first | exact dq | fail) only [go_sem])
  refine aw_cutE (β := Nat × (Nat → Int)) (fun z => ⟨134, sl [(0, .msl 0 0 n n), (1, .iv (.int .i64 a')), (2, .iv (.int .i64 b')), (3, .iv (.int .i64 z.1)), (8, .iv (.bool wb)), (9, .iv (.bool wp)), (10, .iv (.int .i64 ((b' : Int) - a')))], rwM n z.2, 1⟩) (fun z => z.1 ≤ 1000 ∧ Sw a' b' g z.2) ?_ ?_
  · cases wb with
    | true =>
      (repeat' (first | refine Nx.go ?_ | fail) <;> try (simp (maxSteps := 1000000) (disch := first | exact dq | fail) only [go_sem]))
      refine ⟨(lim', g), ⟨hlim', .refl⟩, wk_by [0] ?_⟩
      (simp (maxSteps := 1000000) (disch := first | exact dq | fail) only [go_sem])
    | false =>
      (repeat' (first | refine Nx.go ?_ | fail) <;> try (simp (maxSteps := 1000000) (disch := first | exact dq | fail) only [go_sem]))
      ((with_reducible refine left_callRs [0] (break_spec n a' b' g hab'.2.1 (by omega) hn) ?_ ?_); (· (simp (maxSteps := 1000000) (disch := first | exact dq | fail) only [go_sem])))
      rintro _ _ ⟨g', rfl, rfl, hsw'⟩
      (simp (maxSteps := 1000000) (disch := first | exact dq | fail) only [go_sem])
      obtain ⟨l1, rfl⟩ : ∃ l1, lim' = l1 + 1 := ⟨lim' - 1, by omega⟩
      have el : ((l1 + 1 : Nat) : Int) - 1 = l1 := by omega
      have el2 : (l1 : Int) + 1 - 1 = l1 := by omega
      (repeat' (first | refine Nx.go ?_ | fail) <;> try (simp (maxSteps := 1000000) (disch := first | exact dq | fail) only [go_sem, el, el2]))
      all_goals (try omega)
      refine ⟨(l1, g'), ⟨by dsimp only; omega, hsw'⟩, wk_by [0] ?_⟩
      (simp (maxSteps := 1000000) (disch := first | exact dq | fail) only [go_sem])
  rintro ⟨l2, g2⟩ ⟨hl2, hs2⟩
  dsimp only at hl2 hs2
  (simp (maxSteps := 1000000) (disch := first | exact dq | fail) only [go_sem])
  (repeat' (first | refine Nx.go ?_ | fail) <;> try (simp (maxSteps := 1000000) (disch := first | exact dq | fail) only [go_sem]))
  ((with_reducible refine left_callRs [0] (choose_spec n a' b' g2 (by omega) (by omega) hn) ?_ ?_); (· (simp (maxSteps := 1000000) (disch := first | exact dq | fail) only [go_sem])))
  rintro _ _ ⟨⟨pv, hint⟩, rfl, rfl, hpv, hhint⟩
  dsimp only at hpv hhint
  (simp (maxSteps := 1000000) (disch := first | exact dq | fail) only [go_sem])
  refine aw_cutE (β := Nat × Nat × (Nat → Int)) (fun z => ⟨134, sl [(0, .msl 0 0 n n), (1, .iv (.int .i64 a')), (2, .iv (.int .i64 b')), (3, .iv (.int .i64 l2)), (8, .iv (.bool wb)), (9, .iv (.bool wp)), (10, .iv (.int .i64 ((b' : Int) - a'))), (11, .iv (.int .i64 z.1)), (12, .iv (.int .i64 z.2.1))], rwM n z.2.2, 1⟩) (fun z => (a' ≤ z.1 ∧ z.1 < b') ∧ Sw a' b' g2 z.2.2) ?_ ?_
  · by_cases hh : hint = 2
    · subst hh
      (repeat' (first | refine Nx.go ?_ | fail) <;> try (simp (maxSteps := 1000000) (disch := first | exact dq | fail) only [go_sem]))
      ((with_reducible refine left_callRs [0] (reverse_spec n a' b' g2 hab'.2.1 (by omega) hn) ?_ ?_); (· (simp (maxSteps := 1000000) (disch := first | exact dq | fail) only [go_sem])))
      rintro _ _ ⟨g', rfl, rfl, hsw'⟩
      (simp (maxSteps := 1000000) (disch := first | exact dq | fail) only [go_sem])
      have ep : ((b' : Int) - 1 - ((pv : Int) - a')) = ((b' - 1 - (pv - a') : Nat) : Int) := by omega
      (repeat' (first | refine Nx.go ?_ | fail) <;> try (simp (maxSteps := 1000000) (disch := first | exact dq | fail) only [go_sem]))
      all_goals (try omega)
      refine ⟨(b' - 1 - (pv - a'), 1, g'), ⟨by dsimp only; omega, hsw'⟩, wk_by [0] ?_⟩
      (simp (maxSteps := 1000000) (disch := first | exact dq | fail) only [go_sem])
      congr 2
    · have c3 : ¬ ((hint : Int) = 2) := by omega
      (repeat' (first | refine Nx.go ?_ | fail) <;> try (simp (maxSteps := 1000000) (disch := first | exact dq | fail) only [go_sem, c3, decide_false]))
      refine ⟨(pv, hint, g2), ⟨hpv, .refl⟩, wk_by [0] ?_⟩
      (simp (maxSteps := 1000000) (disch := first | exact dq | fail) only [go_sem])
  clear hpv hhint
  rintro ⟨pv, hint, g3⟩ ⟨hpv, hs3⟩
  dsimp only at hpv hs3
  have hs3 := hs2.trans hs3
  clear hs2
  (simp (maxSteps := 1000000) (disch := first | exact dq | fail) only [go_sem])
  refine aw_cutE (β := Nat → Int) (fun z => ⟨134, sl [(0, .msl 0 0 n n), (1, .iv (.int .i64 a')), (2, .iv (.int .i64 b')), (3, .iv (.int .i64 l2)), (8, .iv (.bool wb)), (9, .iv (.bool wp)), (10, .iv (.int .i64 ((b' : Int) - a'))), (11, .iv (.int .i64 pv))], rwM n z, 1⟩) (fun z => Sw a' b' g z) ?_ ?_
  · by_cases hc : wb = true ∧ wp = true ∧ hint = 1
    · obtain ⟨rfl, rfl, rfl⟩ := hc
      (repeat' (first | refine Nx.go ?_ | fail) <;> try (simp (maxSteps := 1000000) (disch := first | exact dq | fail) only [go_sem]))
      ((with_reducible refine left_callRs [0] (partIns_spec n a' b' g3 (by omega) (by omega) hn (hlow'.sw hs3)) ?_ ?_); (· (simp (maxSteps := 1000000) (disch := first | exact dq | fail) only [go_sem])))
      rintro _ _ ⟨g', rfl, v, rfl, hsw', hv⟩
      (simp (maxSteps := 1000000) (disch := first | exact dq | fail) only [go_sem])
      cases v with
      | true =>
        (repeat' (first | refine Nx.go ?_ | fail) <;> try (simp (maxSteps := 1000000) (disch := first | exact dq | fail) only [go_sem]))
        all_goals (try omega)
        have hs4 := hs3.trans hsw'
        refine ⟨_, _, ⟨g', rfl, rfl, hsw.trans (hs4.mono hab'.1 hab'.2.2), (hprs.sw hs4 hab'.1 hab'.2.2).done (hv rfl)⟩, fin_k [0] ?_⟩
        (simp (maxSteps := 1000000) (disch := first | exact dq | fail) only [go_sem])
      | false =>
        (repeat' (first | refine Nx.go ?_ | fail) <;> try (simp (maxSteps := 1000000) (disch := first | exact dq | fail) only [go_sem]))
        all_goals (try omega)
        refine ⟨g', hs3.trans hsw', wk_by [0] ?_⟩
        (simp (maxSteps := 1000000) (disch := first | exact dq | fail) only [go_sem])
    · cases wb <;> cases wp
      · (repeat' (first | refine Nx.go ?_ | fail) <;> try (simp (maxSteps := 1000000) (disch := first | exact dq | fail) only [go_sem]))
        refine ⟨g3, hs3, wk_by [0] ?_⟩
        (simp (maxSteps := 1000000) (disch := first | exact dq | fail) only [go_sem])
      · (repeat' (first | refine Nx.go ?_ | fail) <;> try (simp (maxSteps := 1000000) (disch := first | exact dq | fail) only [go_sem]))
        refine ⟨g3, hs3, wk_by [0] ?_⟩
        (simp (maxSteps := 1000000) (disch := first | exact dq | fail) only [go_sem])
      · (repeat' (first | refine Nx.go ?_ | fail) <;> try (simp (maxSteps := 1000000) (disch := first | exact dq | fail) only [go_sem]))
        refine ⟨g3, hs3, wk_by [0] ?_⟩
        (simp (maxSteps := 1000000) (disch := first | exact dq | fail) only [go_sem])
      · have c3 : ¬ ((hint : Int) = 1) := fun e => hc ⟨rfl, rfl, by omega⟩
        (repeat' (first | refine Nx.go ?_ | fail) <;> try (simp (maxSteps := 1000000) (disch := first | exact dq | fail) only [go_sem, c3, decide_false]))
        refine ⟨g3, hs3, wk_by [0] ?_⟩
        (simp (maxSteps := 1000000) (disch := first | exact dq | fail) only [go_sem])
  rintro g2 hs2
  (simp (maxSteps := 1000000) (disch := first | exact dq | fail) only [go_sem])
  have hprs2 := hprs.sw hs2 hab'.1 hab'.2.2
  have hsw2 := hsw.trans (hs2.mono hab'.1 hab'.2.2)
  have hlow2 := hlow'.sw hs2
  have hl := rowF_len n g2
  have gp := rowF_get g2 (show pv < n by omega)
  refine aw_cut ⟨134, sl [(0, .msl 0 0 n n), (1, .iv (.int .i64 a')), (2, .iv (.int .i64 b')), (3, .iv (.int .i64 l2)), (8, .iv (.bool wb)), (9, .iv (.bool wp)), (10, .iv (.int .i64 ((b' : Int) - a'))), (11, .iv (.int .i64 pv))], rwM n g2, 1⟩ ?_ ?_
  · by_cases ha0 : a' = 0
    · subst ha0
      (repeat' (with_reducible first | refine Nx.go ?_ | refine rP ?_ | fail) <;> try (simp (maxSteps := 1000000) (disch := first | exact dq | fail) only [go_sem]))
      refine wk_by [0] ?_
      (simp (maxSteps := 1000000) (disch := first | exact dq | fail) only [go_sem])
    have c4 : ((a' : Int) > 0) := by omega
    have ea : ((a' : Int) - 1).toNat = a' - 1 := by omega
    have gq := rowF_get g2 (show a' - 1 < n by omega)
    by_cases hless : g2 (a' - 1) < g2 pv
    · (repeat' first
  | ((with_reducible first | refine Nx.go ?_ | refine rP ?_ | refine And.intro ?_ ?_ | fail) <;> try (simp (maxSteps := 1000000) (disch := first | exact dq | fail) only [go_sem, c4, ea, hl, gp, gq, hless, decide_true]))
  | ((with_reducible refine Sp.go ?_ ?_) <;> intro h <;> (try (simp (maxSteps := 1000000) (disch := first | exact dq | fail) only [go_sem] at h)) <;> try (simp (maxSteps := 1000000) (disch := first | exact dq | fail) only [go_sem, h, c4, ea, hl, gp, gq, hless, decide_true]))
  | ((first | with_reducible apply left_callf | with_reducible apply leftD_callf); (· with_reducible rfl); (· (simp (maxSteps := 1000000) (disch := first | exact dq | fail) only [go_sem, c4, ea, hl, gp, gq, hless, decide_true]) <;> rfl); (· (first | exact Less_spec ..)); try (simp (maxSteps := 1000000) (disch := first | exact dq | fail) only [go_sem, c4, ea, hl, gp, gq, hless, decide_true])) | fail)
      all_goals (try omega)
      refine wk_by [0] ?_
      (simp (maxSteps := 1000000) (disch := first | exact dq | fail) only [go_sem])
    · have hmin : ∀ m, a' ≤ m → m < b' → g2 pv ≤ g2 m := by
        intro m h1 h2
        rcases hlow2 with h | h
        · omega
        · have := h m h1 h2; omega
      (repeat' (with_reducible first | refine Nx.go ?_ | refine rP ?_ | refine And.intro ?_ ?_ | fail) <;> try (simp (maxSteps := 1000000) (disch := first | exact dq | fail) only [go_sem, c4, ea, hl, gp, gq, hless, decide_true, decide_false]))
      all_goals (try omega)
      ((with_reducible first | apply left_callf | apply leftD_callf | apply leftF_callf); (· with_reducible rfl); (· (simp (maxSteps := 1000000) (disch := first | exact dq | fail) only [go_sem]) <;> rfl); (· exact Less_spec _ _); try (simp (maxSteps := 1000000) (disch := first | exact dq | fail) only [go_sem]))
      (simp (maxSteps := 1000000) (disch := first | exact dq | fail) only [go_sem, hless, decide_false])
      (repeat' (first | refine Nx.go ?_ | fail) <;> try (simp (maxSteps := 1000000) (disch := first | exact dq | fail) only [go_sem, hless, decide_true, decide_false]))
      all_goals (try omega)
      ((with_reducible refine left_callRs [0] (partEq_spec n a' b' pv g2 hpv (by omega) hn hmin) ?_ ?_); (· (simp (maxSteps := 1000000) (disch := first | exact dq | fail) only [go_sem])))
      rintro _ _ ⟨g', rfl, m, rfl, hm, hsw', hlo, hhi⟩
      (simp (maxSteps := 1000000) (disch := first | exact dq | fail) only [go_sem])
      (repeat' (first | refine Nx.go ?_ | fail) <;> try (simp (maxSteps := 1000000) (disch := first | exact dq | fail) only [go_sem]))
      all_goals (try omega)
      have hp' := hprs2.sw hsw' hab'.1 hab'.2.2
      refine ⟨(m, b', l2, wb, wp, g'), ⟨by dsimp only; omega, hl2, hsw2.trans (hsw'.mono hab'.1 hab'.2.2), fun p q h1 h2 h3 h4 => ?_⟩, wk_by [0] ?_, by dsimp only; omega⟩
      · dsimp only at h4 ⊢
        by_cases hc : p < a' ∨ b' ≤ q
        · exact hp' p q h1 h2 h3 hc
        · have e1 := hlo p (by omega) (by omega)
          by_cases hq : q < m
          · have e2 := hlo q (by omega) hq; omega
          · have e2 := hhi q (by omega) (by omega); omega
      · (simp (maxSteps := 1000000) (disch := first | exact dq | fail) only [go_sem])
  (repeat' (first | refine Nx.go ?_ | fail) <;> try (simp (maxSteps := 1000000) (disch := first | exact dq | fail) only [go_sem]))
  ((with_reducible refine left_callRs [0] (partition_spec n a' b' pv g2 hpv (by omega) hn) ?_ ?_); (· (simp (maxSteps := 1000000) (disch := first | exact dq | fail) only [go_sem])))
  rintro _ _ ⟨g3, rfl, m, v, rfl, hm, hs3, hlo, hhi⟩
  (simp (maxSteps := 1000000) (disch := first | exact dq | fail) only [go_sem])
  have hp3 := hprs2.sw hs3 hab'.1 hab'.2.2
  have hsw3 := hsw2.trans (hs3.mono hab'.1 hab'.2.2)
  have hlow3 := hlow2.sw hs3
  by_cases hside : m - a' < b' - m
  · have c5 : ((m : Int) - a' < (b' : Int) - m) := by omega
    (repeat' (first | refine Nx.go ?_ | fail) <;> try (simp (maxSteps := 1000000) (disch := first | exact dq | fail) only [go_sem, c5, decide_true]))
    all_goals (try omega)
    ((with_reducible refine left_callRs [0] (ih (m - a') (by omega) a' m l2 g3 rfl hm.1 (by omega) hl2 (hlow3.sub (by omega))) ?_ ?_); (· (simp (maxSteps := 1000000) (disch := first | exact dq | fail) only [go_sem])))
    rintro _ _ ⟨g4, rfl, rfl, hs4, hst4⟩
    (simp (maxSteps := 1000000) (disch := first | exact dq | fail) only [go_sem])
    (repeat' (first | refine Nx.go ?_ | fail) <;> try (simp (maxSteps := 1000000) (disch := first | exact dq | fail) only [go_sem]))
    all_goals (try omega)
    refine ⟨(m + 1, b', l2, decide ((m : Int) - a' ≥ ((b' : Int) - a') / 8), v, g4), ⟨by dsimp only; omega, hl2, hsw3.trans (hs4.mono (by omega) (by omega)), prs_left hp3 hm hlo hhi hs4 hst4 hab'.1 hab'.2.2⟩, wk_by [0] ?_, by dsimp only; omega⟩
    (simp (maxSteps := 1000000) (disch := first | exact dq | fail) only [go_sem])
  · have c5 : ¬ ((m : Int) - a' < (b' : Int) - m) := by omega
    (repeat' (first | refine Nx.go ?_ | fail) <;> try (simp (maxSteps := 1000000) (disch := first | exact dq | fail) only [go_sem, c5, decide_false]))
    all_goals (try omega)
    have em : (m : Int) + 1 = ((m + 1 : Nat) : Int) := by omega
    have hR := ih (b' - (m + 1)) (by omega) (m + 1) b' l2 g3 rfl (by omega) (by omega) hl2 (.inr (fun i h1 h2 => by rw [Nat.add_sub_cancel]; exact hhi i (by omega) h2))
    ((with_reducible refine left_callRs [0] (hR) ?_ ?_); (· (simp (maxSteps := 1000000) (disch := first | exact dq | fail) only [go_sem])))
    rintro _ _ ⟨g4, rfl, rfl, hs4, hst4⟩
    (simp (maxSteps := 1000000) (disch := first | exact dq | fail) only [go_sem])
    (repeat' (first | refine Nx.go ?_ | fail) <;> try (simp (maxSteps := 1000000) (disch := first | exact dq | fail) only [go_sem]))
    all_goals (try omega)
    refine ⟨(a', m, l2, decide ((b' : Int) - m ≥ ((b' : Int) - a') / 8), v, g4), ⟨by dsimp only; omega, hl2, hsw3.trans (hs4.mono (by omega) (by omega)), prs_right hp3 hm hlo hhi hs4 hst4 hab'.1 hab'.2.2⟩, wk_by [0] ?_, by dsimp only; omega⟩
    (simp (maxSteps := 1000000) (disch := first | exact dq | fail) only [go_sem])
end Go.Proofs.Ytnijpeeehnnipaa.AM

set_option linter.unusedVariables false
set_option linter.unusedSimpArgs false
set_option maxRecDepth 20000
namespace Go.Proofs.Ytnijpeeehnnipaa.AM
open Go Go.RowKit

def sortI (l : List Int) : List Int := l.mergeSort (fun a b => decide (a ≤ b))
theorem sortI_perm (l : List Int) : (sortI l).Perm l := List.mergeSort_perm l _
theorem sortI_srt (l : List Int) : (sortI l).Pairwise (· ≤ ·) := by
  have := List.pairwise_mergeSort (le := fun (a b : Int) => decide (a ≤ b)) (fun a b c h1 h2 => by
    rw [decide_eq_true_eq] at h1 h2 ⊢; omega) (fun a b => by
    rw [Bool.or_eq_true, decide_eq_true_eq, decide_eq_true_eq]; omega) l
  exact this.imp (fun h => by rwa [decide_eq_true_eq] at h)
theorem sortI_len (l : List Int) : (sortI l).length = l.length := (sortI_perm l).length_eq
theorem perm_srt_eq {α : Type} {r : α → α → Prop} (has : ∀ a b, r a b → r b a → a = b) : ∀ {l1 l2 : List α}, l1.Perm l2 → l1.Pairwise r → l2.Pairwise r → l1 = l2
  | [], l2, hp, _, _ => by
    have := hp.length_eq
    exact (List.eq_nil_of_length_eq_zero (by simpa using this.symm)).symm
  | a :: l1, [], hp, _, _ => by have := hp.length_eq; simp at this
  | a :: l1, b :: l2, hp, h1, h2 => by
    have e : a = b := by
      rw [List.pairwise_cons] at h1 h2
      have ha : a ∈ b :: l2 := hp.mem_iff.1 (by simp)
      have hb : b ∈ a :: l1 := hp.mem_iff.2 (by simp)
      rcases List.mem_cons.1 ha with h | h
      · exact h
      · rcases List.mem_cons.1 hb with h' | h'
        · exact h'.symm
        · exact has a b (h1.1 b h') (h2.1 a h)
    subst e
    rw [perm_srt_eq has (List.Perm.cons_inv hp) (List.pairwise_cons.1 h1).2 (List.pairwise_cons.1 h2).2]
theorem sortI_eq {l m : List Int} (hp : m.Perm l) (hs : m.Pairwise (· ≤ ·)) : m = sortI l :=
  perm_srt_eq (fun a b h1 h2 => Int.le_antisymm h1 h2) (hp.trans (sortI_perm l).symm) hs (sortI_srt l)
theorem rowF_of (l : List Int) : l.map (IV.int .i64) = rowF l.length (fun m => l.getD m 0) := by
  apply List.ext_getElem (by rw [rowF_len, List.length_map])
  intro i h1 h2
  rw [List.length_map] at h1
  have e := rowF_get (fun m => l.getD m 0) h1
  rw [List.getElem?_eq_getElem h2, Option.some.injEq] at e
  rw [e, List.getElem_map]
  simp [List.getD, h1]
theorem range_getD (l : List Int) : (List.range l.length).map (fun m => l.getD m 0) = l := by
  apply List.ext_getElem (by simp)
  intro i h1 h2
  simp [List.getD, h2]
theorem rowF_map (n : Nat) (g : Nat → Int) : rowF n g = ((List.range n).map g).map (IV.int .i64) := by
  unfold rowF; rw [List.map_map]; rfl
theorem Srt.pair {g : Nat → Int} {n : Nat} (h : Srt g 0 n) : ((List.range n).map g).Pairwise (· ≤ ·) := by
  rw [List.pairwise_map, List.pairwise_iff_getElem]
  intro i j hi hj hij
  rw [List.getElem_range, List.getElem_range]
  exact h i j (Nat.zero_le _) hij (by simpa using hj)
theorem Sort_M (l : List Int) (hl : l.length ≤ 1000000) : MCalls Try.prog 67 [.msl 0 0 l.length l.length] [.row true 3 1 (l.map (IV.int .i64))] (.tup []) [.row true 3 1 ((sortI l).map (IV.int .i64))] := by
  rw [rowF_of]
  have h20 : Lib.bitLen l.length ≤ 20 := (bitLen_fits _ (by omega) (by decide)).2 (by omega)
  have hlen := Len_spec64 l.length (by omega)
  refine MCalls.of_aw Try.func67 rfl (by unfold Callable; kernel_rfl) (by kernel_rfl) (by simp [Try.ntmps67]) (by (simp (disch := first | exact dq | fail) only [go_sem])) ?_; rw [Try.ntmps67, Try.results67]; (simp (disch := first | exact dq | fail) only [go_sem])
  (repeat' (first | refine Nx.go ?_ | fail) <;> try (simp (disch := first | exact dq | fail) only [go_sem, rowF_len]))
  all_goals (try omega)
  ((with_reducible first | apply left_callf | apply leftD_callf | apply leftF_callf); (· with_reducible rfl); (· (simp (disch := first | exact dq | fail) only [go_sem]) <;> rfl); (· exact hlen); try (simp (disch := first | exact dq | fail) only [go_sem]))
  have hq := pdq_spec l.length hl l.length 0 l.length (Lib.bitLen l.length) (fun m => l.getD m 0) (Nat.sub_zero _) (Nat.zero_le _) (Nat.le_refl _) (by omega) (.inl rfl)
  ((with_reducible refine left_callRs [0] (hq) ?_ ?_); (· (simp (disch := first | exact dq | fail) only [go_sem])))
  rintro _ _ ⟨g, rfl, rfl, hsw, hst⟩
  have hp := hsw.perm (Nat.le_refl _)
  rw [range_getD] at hp
  have he := sortI_eq hp hst.pair
  have hr := rowF_map l.length g
  rw [he] at hr
  (simp (disch := first | exact dq | fail) only [go_sem])
  (repeat' (first | refine Nx.go ?_ | fail) <;> try (simp (disch := first | exact dq | fail) only [go_sem]))
  rw [hr]
  refine fin_k [0] ?_
  (simp (disch := first | exact dq | fail) only [go_sem])
end Go.Proofs.Ytnijpeeehnnipaa.AM
