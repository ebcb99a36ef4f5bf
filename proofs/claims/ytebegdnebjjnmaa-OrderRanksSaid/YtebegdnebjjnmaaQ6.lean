
/- slices.Sort: partitions. No condition but lengths that fit. -/
import Derived.Test.YtebegdnebjjnmaaQ5
set_option linter.unusedVariables false
set_option linter.unusedSimpArgs false
set_option maxRecDepth 20000
namespace Go.Proofs.Ytebegdnebjjnmaa.AM
open Go Go.RowKit

/-- Where a block is left: states of a family that fit, and all that comes behind from these. -/
theorem aw_postE {P : Program} {c y : Code} {id : Nat} {Q Q' : Exit → St → Prop} {s : St} {β : Type} (E : β → St) (J : β → Prop) (h : aw P c (blockQ id (thenQ (fun s' => ∃ z, J z ∧ Wk s' (E z)) Q')) s) (k : ∀ z, J z → aw P y Q (E z)) :
    aw P c (blockQ id (thenQ (aw P y Q) Q')) s := by
  refine aw_mono h (fun e s' hq => ?_)
  cases e with
  | normal => obtain ⟨z, h1, h2⟩ := hq; exact aw_wk h2 (k z h1)
  | exit i =>
    simp only [blockQ] at hq ⊢
    split
    · rename_i hi
      rw [if_pos hi] at hq
      obtain ⟨z, h1, h2⟩ := hq; exact aw_wk h2 (k z h1)
    · rename_i hi
      rw [if_neg hi] at hq
      exact hq
  | goto i => exact hq
  | ret => exact hq
  | panic c => exact hq
  | outgrown => exact hq
/-- A part that is being divided: below i all are of the one kind, from j on none is. -/
structure PtI (L : Int → Prop) (f g : Nat → Int) (a b i j : Nat) (p : Int) : Prop where
  i0 : a + 1 ≤ i
  ij : i ≤ j
  jb : j ≤ b
  sw : Sw a b f g
  ga : g a = p
  lo : ∀ m, a + 1 ≤ m → m < i → L (g m)
  hi : ∀ m, j ≤ m → m < b → ¬ L (g m)
theorem PtI.start {L : Int → Prop} {f : Nat → Int} {a b k : Nat} (hk : a ≤ k ∧ k < b) : PtI L f (swp f a k) a b (a + 1) b (f k) :=
  ⟨Nat.le_refl _, by omega, Nat.le_refl _, Sw.refl.swap _ _ (by omega) hk, swp_i _ _ _, fun m h1 h2 => by omega, fun m h1 h2 => by omega⟩
theorem PtI.inc {L : Int → Prop} {f g : Nat → Int} {a b i j : Nat} {p : Int} (h : PtI L f g a b i j p) (hij : i < j) (hl : L (g i)) : PtI L f g a b (i + 1) j p :=
  ⟨by have := h.i0; omega, hij, h.jb, h.sw, h.ga, fun m h1 h2 => by
    by_cases e : m = i
    · rw [e]; exact hl
    · exact h.lo m h1 (by omega), h.hi⟩
theorem PtI.dec {L : Int → Prop} {f g : Nat → Int} {a b i j : Nat} {p : Int} (h : PtI L f g a b i j p) (hij : i < j) (hl : ¬ L (g (j - 1))) : PtI L f g a b i (j - 1) p :=
  ⟨h.i0, by omega, by have := h.jb; omega, h.sw, h.ga, h.lo, fun m h1 h2 => by
    by_cases e : m = j - 1
    · rw [e]; exact hl
    · exact h.hi m (by omega) h2⟩
theorem PtI.swap {L : Int → Prop} {f g : Nat → Int} {a b i j : Nat} {p : Int} (h : PtI L f g a b i j p) (hij : i < j) (h1 : ¬ L (g i)) (h2 : L (g (j - 1))) : i + 1 ≤ j - 1 ∧ PtI L f (swp g i (j - 1)) a b (i + 1) (j - 1) p := by
  have hne : i ≠ j - 1 := fun e => h1 (e ▸ h2)
  have h0 := h.i0
  have hb := h.jb
  refine ⟨by omega, by omega, by omega, by omega, h.sw.swap _ _ (by omega) (by omega), by rw [swp_ne _ (by omega) (by omega)]; exact h.ga, fun m h3 h4 => ?_, fun m h3 h4 => ?_⟩
  · by_cases e : m = i
    · subst e; rw [swp_i]; exact h2
    · rw [swp_ne _ e (by omega)]; exact h.lo m h3 (by omega)
  · by_cases e : m = j - 1
    · subst e; rw [swp_j]; exact h1
    · rw [swp_ne _ (by omega) e]; exact h.hi m (by omega) h4
theorem PtI.done {L : Int → Prop} {f g : Nat → Int} {a b i j : Nat} {p : Int} (h : PtI L f g a b i j p) (hij : i = j) (hLp : ∀ x, L x ↔ x < p) :
    Sw a b f (swp g (j - 1) a) ∧ (∀ q, a ≤ q → q < j - 1 → swp g (j - 1) a q < swp g (j - 1) a (j - 1)) ∧ (∀ q, j - 1 < q → q < b → swp g (j - 1) a (j - 1) ≤ swp g (j - 1) a q) := by
  have h0 := h.i0
  have hb := h.jb
  refine ⟨h.sw.swap _ _ (by omega) (by omega), fun q h1 h2 => ?_, fun q h1 h2 => ?_⟩
  · rw [swp_i, h.ga]
    by_cases e : q = a
    · subst e; rw [swp_j]; exact (hLp _).1 (h.lo (j - 1) (by omega) (by omega))
    · rw [swp_ne _ (by omega) e]; exact (hLp _).1 (h.lo q (by omega) (by omega))
  · rw [swp_i, h.ga, swp_ne _ (by omega) (by omega)]
    have := h.hi q (by omega) h2
    rw [hLp] at this; omega

set_option maxHeartbeats 4000000 in
theorem partition_spec (n a b k : Nat) (f : Nat → Int) (hk : a ≤ k ∧ k < b) (hb : b ≤ n) (hn : n ≤ 1000000) :
    RCalls Try.prog 61 [.msl 0 0 n n, .iv (.int .i64 a), .iv (.int .i64 b), .iv (.int .i64 k)] (rwM n f)
      (fun r M' => ∃ g, M' = rwM n g ∧ ∃ (m : Nat) (v : Bool), r = .tup [.iv (.int .i64 m), .iv (.bool v)] ∧ (a ≤ m ∧ m < b) ∧ Sw a b f g ∧ (∀ q, a ≤ q → q < m → g q < g m) ∧ (∀ q, m < q → q < b → g m ≤ g q)) := by
  have hlf := rowF_len n f
  have gk := rowF_get f (show k < n by omega)
  have ga := rowF_get f (show a < n by omega)
  have hs0 := swp_row n f a k
  have hr0 := swp_get f (i := a) (show k < n by omega)
  have eb : ((b : Int) - 1) = ((b - 1 : Nat) : Int) := by omega
  refine RCalls.of_aw Try.func61 rfl (by unfold Callable; kernel_rfl) (by kernel_rfl) (by simp [Try.ntmps61]) (by rintro _ _ ⟨_, rfl, _⟩; exact Nat.le_refl _) ?_; rw [Try.ntmps61, Try.results61]; (simp (maxSteps := 1000000) (disch := first | omega | (simp only [List.length_append, List.length_cons, List.length_nil, List.length_map, bitsOf_len, readB_len, Int.natCast_add, Int.natCast_succ, Nat.zero_add, natCast_one, natCast_zero] <;> omega) | fail) only [go_sem])
  (repeat' (first
    | ((first | with_reducible refine aw_seq ?_ | with_reducible refine aw_region (aops_run ?_) | (with_reducible refine aw_regionD (fun _ => .p) mixed ?_ (dops_run ?_); (· kernel_rfl)) | (with_reducible refine aw_regionD (fun _ => .r) mixed ?_ (dops_run ?_); (· kernel_rfl)) | with_reducible refine aw_condK ?_ | with_reducible refine aw_skip ?_ | with_reducible refine aw_ret ?_ | with_reducible refine aw_exit ?_ | with_reducible refine aw_label ?_ | with_reducible refine aw_block ?_ | with_reducible refine aw_scope ?_ | with_reducible refine And.intro ?_ ?_) <;> (try (simp (maxSteps := 1000000) (disch := first | omega | (simp only [List.length_append, List.length_cons, List.length_nil, List.length_map, bitsOf_len, readB_len, Int.natCast_add, Int.natCast_succ, Nat.zero_add, natCast_one, natCast_zero] <;> omega) | fail) only [go_sem, hlf, gk, ga, hs0, hr0])))
    | ((first | with_reducible refine wantK_split (fun h => ?_) (fun h => ?_) | with_reducible refine condK_split (fun h => ?_) (fun h => ?_) | with_reducible refine pickV_split (fun h => ?_) (fun h => ?_)) <;> (try (simp (maxSteps := 1000000) (disch := first | omega | (simp only [List.length_append, List.length_cons, List.length_nil, List.length_map, bitsOf_len, readB_len, Int.natCast_add, Int.natCast_succ, Nat.zero_add, natCast_one, natCast_zero] <;> omega) | fail) only [go_sem] at h)) <;> (try (simp (maxSteps := 1000000) (disch := first | omega | (simp only [List.length_append, List.length_cons, List.length_nil, List.length_map, bitsOf_len, readB_len, Int.natCast_add, Int.natCast_succ, Nat.zero_add, natCast_one, natCast_zero] <;> omega) | fail) only [go_sem, h, hlf, gk, ga, hs0, hr0])))))
  all_goals (try omega)
  have hst := PtI.start (L := fun x => x < f k) (f := f) hk
  generalize swp f a k = g at *
  generalize f k = p at *
  refine aw_postE (β := Nat) (fun i => ⟨168, sl [(0, .msl 0 0 n n), (1, .iv (.int .i64 a)), (10, .iv (.int .i64 i)), (11, .iv (.int .i64 ((b : Int) - 1)))], rwM n g, 1⟩)
    (fun i => PtI (fun x => x < p) f g a b i b p ∧ (i < b → ¬ (fun x => x < p) (g i))) ?_ ?_
  · refine aw_loop (α := Nat) (fun i => ⟨168, sl [(0, .msl 0 0 n n), (1, .iv (.int .i64 a)), (10, .iv (.int .i64 i)), (11, .iv (.int .i64 ((b : Int) - 1)))], rwM n g, 1⟩)
      (fun i => PtI (fun x => x < p) f g a b i b p) (fun i => b - i) (a + 1) (wk_by [0] ?_) hst ?_
    · (simp (maxSteps := 1000000) (disch := first | omega | (simp only [List.length_append, List.length_cons, List.length_nil, List.length_map, bitsOf_len, readB_len, Int.natCast_add, Int.natCast_succ, Nat.zero_add, natCast_one, natCast_zero] <;> omega) | fail) only [go_sem])
    rintro i hI
    have hib := hI.ij
    have hjb := hI.jb
    have hi0 := hI.i0
    have gga := hI.ga
    have hlg := rowF_len n g
    have g1 := rowF_get g (show a < n by omega)
    rw [gga] at g1
    by_cases hlt : i < b
    · have g2 := rowF_get g (show i < n by omega)
      by_cases hless : g i < p
      · (repeat' (first
    | ((first | with_reducible refine aw_seq ?_ | with_reducible refine aw_region (aops_run ?_) | (with_reducible refine aw_regionD (fun _ => .p) mixed ?_ (dops_run ?_); (· kernel_rfl)) | (with_reducible refine aw_regionD (fun _ => .r) mixed ?_ (dops_run ?_); (· kernel_rfl)) | with_reducible refine aw_condK ?_ | with_reducible refine aw_skip ?_ | with_reducible refine aw_ret ?_ | with_reducible refine aw_exit ?_ | with_reducible refine aw_label ?_ | with_reducible refine aw_block ?_ | with_reducible refine aw_scope ?_ | with_reducible refine And.intro ?_ ?_) <;> (try (simp (maxSteps := 1000000) (disch := first | omega | (simp only [List.length_append, List.length_cons, List.length_nil, List.length_map, bitsOf_len, readB_len, Int.natCast_add, Int.natCast_succ, Nat.zero_add, natCast_one, natCast_zero] <;> omega) | fail) only [go_sem, hlg, g1, g2, hless, decide_true, decide_false])))
    | ((first | with_reducible refine wantK_split (fun h => ?_) (fun h => ?_) | with_reducible refine condK_split (fun h => ?_) (fun h => ?_) | with_reducible refine pickV_split (fun h => ?_) (fun h => ?_)) <;> (try (simp (maxSteps := 1000000) (disch := first | omega | (simp only [List.length_append, List.length_cons, List.length_nil, List.length_map, bitsOf_len, readB_len, Int.natCast_add, Int.natCast_succ, Nat.zero_add, natCast_one, natCast_zero] <;> omega) | fail) only [go_sem] at h)) <;> (try (simp (maxSteps := 1000000) (disch := first | omega | (simp only [List.length_append, List.length_cons, List.length_nil, List.length_map, bitsOf_len, readB_len, Int.natCast_add, Int.natCast_succ, Nat.zero_add, natCast_one, natCast_zero] <;> omega) | fail) only [go_sem, h, hlg, g1, g2, hless, decide_true, decide_false])))
    | ((first | with_reducible apply left_callf | with_reducible apply leftD_callf); (· with_reducible rfl); (· (simp (maxSteps := 1000000) (disch := first | omega | (simp only [List.length_append, List.length_cons, List.length_nil, List.length_map, bitsOf_len, readB_len, Int.natCast_add, Int.natCast_succ, Nat.zero_add, natCast_one, natCast_zero] <;> omega) | fail) only [go_sem, hlg, g1, g2, hless, decide_true, decide_false]) <;> rfl); (· (first | exact Less_spec ..)); try (simp (maxSteps := 1000000) (disch := first | omega | (simp only [List.length_append, List.length_cons, List.length_nil, List.length_map, bitsOf_len, readB_len, Int.natCast_add, Int.natCast_succ, Nat.zero_add, natCast_one, natCast_zero] <;> omega) | fail) only [go_sem, hlg, g1, g2, hless, decide_true, decide_false]))))
        all_goals (try omega)
        refine ⟨i + 1, hI.inc hlt hless, wk_by [0] ?_, by omega⟩
        (simp (maxSteps := 1000000) (disch := first | omega | (simp only [List.length_append, List.length_cons, List.length_nil, List.length_map, bitsOf_len, readB_len, Int.natCast_add, Int.natCast_succ, Nat.zero_add, natCast_one, natCast_zero] <;> omega) | fail) only [go_sem])
      · (repeat' (first
    | ((first | with_reducible refine aw_seq ?_ | with_reducible refine aw_region (aops_run ?_) | (with_reducible refine aw_regionD (fun _ => .p) mixed ?_ (dops_run ?_); (· kernel_rfl)) | (with_reducible refine aw_regionD (fun _ => .r) mixed ?_ (dops_run ?_); (· kernel_rfl)) | with_reducible refine aw_condK ?_ | with_reducible refine aw_skip ?_ | with_reducible refine aw_ret ?_ | with_reducible refine aw_exit ?_ | with_reducible refine aw_label ?_ | with_reducible refine aw_block ?_ | with_reducible refine aw_scope ?_ | with_reducible refine And.intro ?_ ?_) <;> (try (simp (maxSteps := 1000000) (disch := first | omega | (simp only [List.length_append, List.length_cons, List.length_nil, List.length_map, bitsOf_len, readB_len, Int.natCast_add, Int.natCast_succ, Nat.zero_add, natCast_one, natCast_zero] <;> omega) | fail) only [go_sem, hlg, g1, g2, hless, decide_true, decide_false])))
    | ((first | with_reducible refine wantK_split (fun h => ?_) (fun h => ?_) | with_reducible refine condK_split (fun h => ?_) (fun h => ?_) | with_reducible refine pickV_split (fun h => ?_) (fun h => ?_)) <;> (try (simp (maxSteps := 1000000) (disch := first | omega | (simp only [List.length_append, List.length_cons, List.length_nil, List.length_map, bitsOf_len, readB_len, Int.natCast_add, Int.natCast_succ, Nat.zero_add, natCast_one, natCast_zero] <;> omega) | fail) only [go_sem] at h)) <;> (try (simp (maxSteps := 1000000) (disch := first | omega | (simp only [List.length_append, List.length_cons, List.length_nil, List.length_map, bitsOf_len, readB_len, Int.natCast_add, Int.natCast_succ, Nat.zero_add, natCast_one, natCast_zero] <;> omega) | fail) only [go_sem, h, hlg, g1, g2, hless, decide_true, decide_false])))
    | ((first | with_reducible apply left_callf | with_reducible apply leftD_callf); (· with_reducible rfl); (· (simp (maxSteps := 1000000) (disch := first | omega | (simp only [List.length_append, List.length_cons, List.length_nil, List.length_map, bitsOf_len, readB_len, Int.natCast_add, Int.natCast_succ, Nat.zero_add, natCast_one, natCast_zero] <;> omega) | fail) only [go_sem, hlg, g1, g2, hless, decide_true, decide_false]) <;> rfl); (· (first | exact Less_spec ..)); try (simp (maxSteps := 1000000) (disch := first | omega | (simp only [List.length_append, List.length_cons, List.length_nil, List.length_map, bitsOf_len, readB_len, Int.natCast_add, Int.natCast_succ, Nat.zero_add, natCast_one, natCast_zero] <;> omega) | fail) only [go_sem, hlg, g1, g2, hless, decide_true, decide_false]))))
        all_goals (try omega)
        refine ⟨i, ⟨hI, fun _ => hless⟩, wk_by [0] ?_⟩
        (simp (maxSteps := 1000000) (disch := first | omega | (simp only [List.length_append, List.length_cons, List.length_nil, List.length_map, bitsOf_len, readB_len, Int.natCast_add, Int.natCast_succ, Nat.zero_add, natCast_one, natCast_zero] <;> omega) | fail) only [go_sem])
    · (repeat' (first
    | ((first | with_reducible refine aw_seq ?_ | with_reducible refine aw_region (aops_run ?_) | (with_reducible refine aw_regionD (fun _ => .p) mixed ?_ (dops_run ?_); (· kernel_rfl)) | (with_reducible refine aw_regionD (fun _ => .r) mixed ?_ (dops_run ?_); (· kernel_rfl)) | with_reducible refine aw_condK ?_ | with_reducible refine aw_skip ?_ | with_reducible refine aw_ret ?_ | with_reducible refine aw_exit ?_ | with_reducible refine aw_label ?_ | with_reducible refine aw_block ?_ | with_reducible refine aw_scope ?_ | with_reducible refine And.intro ?_ ?_) <;> (try (simp (maxSteps := 1000000) (disch := first | omega | (simp only [List.length_append, List.length_cons, List.length_nil, List.length_map, bitsOf_len, readB_len, Int.natCast_add, Int.natCast_succ, Nat.zero_add, natCast_one, natCast_zero] <;> omega) | fail) only [go_sem, hlg, g1])))
    | ((first | with_reducible refine wantK_split (fun h => ?_) (fun h => ?_) | with_reducible refine condK_split (fun h => ?_) (fun h => ?_) | with_reducible refine pickV_split (fun h => ?_) (fun h => ?_)) <;> (try (simp (maxSteps := 1000000) (disch := first | omega | (simp only [List.length_append, List.length_cons, List.length_nil, List.length_map, bitsOf_len, readB_len, Int.natCast_add, Int.natCast_succ, Nat.zero_add, natCast_one, natCast_zero] <;> omega) | fail) only [go_sem] at h)) <;> (try (simp (maxSteps := 1000000) (disch := first | omega | (simp only [List.length_append, List.length_cons, List.length_nil, List.length_map, bitsOf_len, readB_len, Int.natCast_add, Int.natCast_succ, Nat.zero_add, natCast_one, natCast_zero] <;> omega) | fail) only [go_sem, h, hlg, g1])))
    | ((first | with_reducible apply left_callf | with_reducible apply leftD_callf); (· with_reducible rfl); (· (simp (maxSteps := 1000000) (disch := first | omega | (simp only [List.length_append, List.length_cons, List.length_nil, List.length_map, bitsOf_len, readB_len, Int.natCast_add, Int.natCast_succ, Nat.zero_add, natCast_one, natCast_zero] <;> omega) | fail) only [go_sem, hlg, g1]) <;> rfl); (· (first | exact Less_spec ..)); try (simp (maxSteps := 1000000) (disch := first | omega | (simp only [List.length_append, List.length_cons, List.length_nil, List.length_map, bitsOf_len, readB_len, Int.natCast_add, Int.natCast_succ, Nat.zero_add, natCast_one, natCast_zero] <;> omega) | fail) only [go_sem, hlg, g1]))))
      all_goals (try omega)
      refine ⟨i, ⟨hI, fun h => by omega⟩, wk_by [0] ?_⟩
      (simp (maxSteps := 1000000) (disch := first | omega | (simp only [List.length_append, List.length_cons, List.length_nil, List.length_map, bitsOf_len, readB_len, Int.natCast_add, Int.natCast_succ, Nat.zero_add, natCast_one, natCast_zero] <;> omega) | fail) only [go_sem])
  rintro i ⟨hI, hex⟩
  (simp (maxSteps := 1000000) (disch := first | omega | (simp only [List.length_append, List.length_cons, List.length_nil, List.length_map, bitsOf_len, readB_len, Int.natCast_add, Int.natCast_succ, Nat.zero_add, natCast_one, natCast_zero] <;> omega) | fail) only [go_sem])
  (repeat' (first
    | ((first | with_reducible refine aw_seq ?_ | with_reducible refine aw_region (aops_run ?_) | (with_reducible refine aw_regionD (fun _ => .p) mixed ?_ (dops_run ?_); (· kernel_rfl)) | (with_reducible refine aw_regionD (fun _ => .r) mixed ?_ (dops_run ?_); (· kernel_rfl)) | with_reducible refine aw_condK ?_ | with_reducible refine aw_skip ?_ | with_reducible refine aw_ret ?_ | with_reducible refine aw_exit ?_ | with_reducible refine aw_label ?_ | with_reducible refine aw_block ?_ | with_reducible refine aw_scope ?_ | with_reducible refine And.intro ?_ ?_) <;> (try (simp (maxSteps := 1000000) (disch := first | omega | (simp only [List.length_append, List.length_cons, List.length_nil, List.length_map, bitsOf_len, readB_len, Int.natCast_add, Int.natCast_succ, Nat.zero_add, natCast_one, natCast_zero] <;> omega) | fail) only [go_sem])))
    | ((first | with_reducible refine wantK_split (fun h => ?_) (fun h => ?_) | with_reducible refine condK_split (fun h => ?_) (fun h => ?_) | with_reducible refine pickV_split (fun h => ?_) (fun h => ?_)) <;> (try (simp (maxSteps := 1000000) (disch := first | omega | (simp only [List.length_append, List.length_cons, List.length_nil, List.length_map, bitsOf_len, readB_len, Int.natCast_add, Int.natCast_succ, Nat.zero_add, natCast_one, natCast_zero] <;> omega) | fail) only [go_sem] at h)) <;> (try (simp (maxSteps := 1000000) (disch := first | omega | (simp only [List.length_append, List.length_cons, List.length_nil, List.length_map, bitsOf_len, readB_len, Int.natCast_add, Int.natCast_succ, Nat.zero_add, natCast_one, natCast_zero] <;> omega) | fail) only [go_sem, h])))))
  refine aw_postE (β := Nat) (fun j => ⟨168, sl [(0, .msl 0 0 n n), (1, .iv (.int .i64 a)), (10, .iv (.int .i64 i)), (11, .iv (.int .i64 ((j : Int) - 1)))], rwM n g, 1⟩)
    (fun j => PtI (fun x => x < p) f g a b i j p ∧ (i < j → ¬ (fun x => x < p) (g i)) ∧ (i < j → (fun x => x < p) (g (j - 1))) ∧ j ≤ b) ?_ ?_
  · refine aw_loop (α := Nat) (fun j => ⟨168, sl [(0, .msl 0 0 n n), (1, .iv (.int .i64 a)), (10, .iv (.int .i64 i)), (11, .iv (.int .i64 ((j : Int) - 1)))], rwM n g, 1⟩)
      (fun j => PtI (fun x => x < p) f g a b i j p ∧ (i < j → ¬ (fun x => x < p) (g i)) ∧ j ≤ b) (fun j => j) b (wk_by [0] ?_) ⟨hI, hex, Nat.le_refl _⟩ ?_
    · (simp (maxSteps := 1000000) (disch := first | omega | (simp only [List.length_append, List.length_cons, List.length_nil, List.length_map, bitsOf_len, readB_len, Int.natCast_add, Int.natCast_succ, Nat.zero_add, natCast_one, natCast_zero] <;> omega) | fail) only [go_sem])
    rintro j ⟨hI, hex, hjs⟩
    have hib := hI.ij
    have hjb := hI.jb
    have hi0 := hI.i0
    have gga := hI.ga
    have hlg := rowF_len n g
    have g1 := rowF_get g (show a < n by omega)
    rw [gga] at g1
    obtain ⟨j, rfl⟩ : ∃ k, j = k + 1 := ⟨j - 1, by omega⟩
    have ej : ((j + 1 : Nat) : Int) - 1 = j := by omega
    have ej2 : (j : Int) + 1 - 1 = j := by omega
    by_cases hlt : i < j + 1
    · have g2 := rowF_get g (show j < n by omega)
      by_cases hless : g j < p
      · (repeat' (first
    | ((first | with_reducible refine aw_seq ?_ | with_reducible refine aw_region (aops_run ?_) | (with_reducible refine aw_regionD (fun _ => .p) mixed ?_ (dops_run ?_); (· kernel_rfl)) | (with_reducible refine aw_regionD (fun _ => .r) mixed ?_ (dops_run ?_); (· kernel_rfl)) | with_reducible refine aw_condK ?_ | with_reducible refine aw_skip ?_ | with_reducible refine aw_ret ?_ | with_reducible refine aw_exit ?_ | with_reducible refine aw_label ?_ | with_reducible refine aw_block ?_ | with_reducible refine aw_scope ?_ | with_reducible refine And.intro ?_ ?_) <;> (try (simp (maxSteps := 1000000) (disch := first | omega | (simp only [List.length_append, List.length_cons, List.length_nil, List.length_map, bitsOf_len, readB_len, Int.natCast_add, Int.natCast_succ, Nat.zero_add, natCast_one, natCast_zero] <;> omega) | fail) only [go_sem, ej, ej2, hlg, g1, g2, hless, decide_true, decide_false])))
    | ((first | with_reducible refine wantK_split (fun h => ?_) (fun h => ?_) | with_reducible refine condK_split (fun h => ?_) (fun h => ?_) | with_reducible refine pickV_split (fun h => ?_) (fun h => ?_)) <;> (try (simp (maxSteps := 1000000) (disch := first | omega | (simp only [List.length_append, List.length_cons, List.length_nil, List.length_map, bitsOf_len, readB_len, Int.natCast_add, Int.natCast_succ, Nat.zero_add, natCast_one, natCast_zero] <;> omega) | fail) only [go_sem] at h)) <;> (try (simp (maxSteps := 1000000) (disch := first | omega | (simp only [List.length_append, List.length_cons, List.length_nil, List.length_map, bitsOf_len, readB_len, Int.natCast_add, Int.natCast_succ, Nat.zero_add, natCast_one, natCast_zero] <;> omega) | fail) only [go_sem, h, ej, ej2, hlg, g1, g2, hless, decide_true, decide_false])))
    | ((first | with_reducible apply left_callf | with_reducible apply leftD_callf); (· with_reducible rfl); (· (simp (maxSteps := 1000000) (disch := first | omega | (simp only [List.length_append, List.length_cons, List.length_nil, List.length_map, bitsOf_len, readB_len, Int.natCast_add, Int.natCast_succ, Nat.zero_add, natCast_one, natCast_zero] <;> omega) | fail) only [go_sem, ej, ej2, hlg, g1, g2, hless, decide_true, decide_false]) <;> rfl); (· (first | exact Less_spec ..)); try (simp (maxSteps := 1000000) (disch := first | omega | (simp only [List.length_append, List.length_cons, List.length_nil, List.length_map, bitsOf_len, readB_len, Int.natCast_add, Int.natCast_succ, Nat.zero_add, natCast_one, natCast_zero] <;> omega) | fail) only [go_sem, ej, ej2, hlg, g1, g2, hless, decide_true, decide_false]))))
        all_goals (try omega)
        refine ⟨j + 1, ⟨hI, hex, fun _ => hless, hjs⟩, wk_by [0] ?_⟩
        (simp (maxSteps := 1000000) (disch := first | omega | (simp only [List.length_append, List.length_cons, List.length_nil, List.length_map, bitsOf_len, readB_len, Int.natCast_add, Int.natCast_succ, Nat.zero_add, natCast_one, natCast_zero] <;> omega) | fail) only [go_sem, ej, ej2])
      · (repeat' (first
    | ((first | with_reducible refine aw_seq ?_ | with_reducible refine aw_region (aops_run ?_) | (with_reducible refine aw_regionD (fun _ => .p) mixed ?_ (dops_run ?_); (· kernel_rfl)) | (with_reducible refine aw_regionD (fun _ => .r) mixed ?_ (dops_run ?_); (· kernel_rfl)) | with_reducible refine aw_condK ?_ | with_reducible refine aw_skip ?_ | with_reducible refine aw_ret ?_ | with_reducible refine aw_exit ?_ | with_reducible refine aw_label ?_ | with_reducible refine aw_block ?_ | with_reducible refine aw_scope ?_ | with_reducible refine And.intro ?_ ?_) <;> (try (simp (maxSteps := 1000000) (disch := first | omega | (simp only [List.length_append, List.length_cons, List.length_nil, List.length_map, bitsOf_len, readB_len, Int.natCast_add, Int.natCast_succ, Nat.zero_add, natCast_one, natCast_zero] <;> omega) | fail) only [go_sem, ej, ej2, hlg, g1, g2, hless, decide_true, decide_false])))
    | ((first | with_reducible refine wantK_split (fun h => ?_) (fun h => ?_) | with_reducible refine condK_split (fun h => ?_) (fun h => ?_) | with_reducible refine pickV_split (fun h => ?_) (fun h => ?_)) <;> (try (simp (maxSteps := 1000000) (disch := first | omega | (simp only [List.length_append, List.length_cons, List.length_nil, List.length_map, bitsOf_len, readB_len, Int.natCast_add, Int.natCast_succ, Nat.zero_add, natCast_one, natCast_zero] <;> omega) | fail) only [go_sem] at h)) <;> (try (simp (maxSteps := 1000000) (disch := first | omega | (simp only [List.length_append, List.length_cons, List.length_nil, List.length_map, bitsOf_len, readB_len, Int.natCast_add, Int.natCast_succ, Nat.zero_add, natCast_one, natCast_zero] <;> omega) | fail) only [go_sem, h, ej, ej2, hlg, g1, g2, hless, decide_true, decide_false])))
    | ((first | with_reducible apply left_callf | with_reducible apply leftD_callf); (· with_reducible rfl); (· (simp (maxSteps := 1000000) (disch := first | omega | (simp only [List.length_append, List.length_cons, List.length_nil, List.length_map, bitsOf_len, readB_len, Int.natCast_add, Int.natCast_succ, Nat.zero_add, natCast_one, natCast_zero] <;> omega) | fail) only [go_sem, ej, ej2, hlg, g1, g2, hless, decide_true, decide_false]) <;> rfl); (· (first | exact Less_spec ..)); try (simp (maxSteps := 1000000) (disch := first | omega | (simp only [List.length_append, List.length_cons, List.length_nil, List.length_map, bitsOf_len, readB_len, Int.natCast_add, Int.natCast_succ, Nat.zero_add, natCast_one, natCast_zero] <;> omega) | fail) only [go_sem, ej, ej2, hlg, g1, g2, hless, decide_true, decide_false]))))
        all_goals (try omega)
        refine ⟨j, ⟨hI.dec hlt hless, fun h => hex (by omega), by omega⟩, wk_by [0] ?_, by omega⟩
        (simp (maxSteps := 1000000) (disch := first | omega | (simp only [List.length_append, List.length_cons, List.length_nil, List.length_map, bitsOf_len, readB_len, Int.natCast_add, Int.natCast_succ, Nat.zero_add, natCast_one, natCast_zero] <;> omega) | fail) only [go_sem])
    · (repeat' (first
    | ((first | with_reducible refine aw_seq ?_ | with_reducible refine aw_region (aops_run ?_) | (with_reducible refine aw_regionD (fun _ => .p) mixed ?_ (dops_run ?_); (· kernel_rfl)) | (with_reducible refine aw_regionD (fun _ => .r) mixed ?_ (dops_run ?_); (· kernel_rfl)) | with_reducible refine aw_condK ?_ | with_reducible refine aw_skip ?_ | with_reducible refine aw_ret ?_ | with_reducible refine aw_exit ?_ | with_reducible refine aw_label ?_ | with_reducible refine aw_block ?_ | with_reducible refine aw_scope ?_ | with_reducible refine And.intro ?_ ?_) <;> (try (simp (maxSteps := 1000000) (disch := first | omega | (simp only [List.length_append, List.length_cons, List.length_nil, List.length_map, bitsOf_len, readB_len, Int.natCast_add, Int.natCast_succ, Nat.zero_add, natCast_one, natCast_zero] <;> omega) | fail) only [go_sem, ej, ej2, hlg, g1])))
    | ((first | with_reducible refine wantK_split (fun h => ?_) (fun h => ?_) | with_reducible refine condK_split (fun h => ?_) (fun h => ?_) | with_reducible refine pickV_split (fun h => ?_) (fun h => ?_)) <;> (try (simp (maxSteps := 1000000) (disch := first | omega | (simp only [List.length_append, List.length_cons, List.length_nil, List.length_map, bitsOf_len, readB_len, Int.natCast_add, Int.natCast_succ, Nat.zero_add, natCast_one, natCast_zero] <;> omega) | fail) only [go_sem] at h)) <;> (try (simp (maxSteps := 1000000) (disch := first | omega | (simp only [List.length_append, List.length_cons, List.length_nil, List.length_map, bitsOf_len, readB_len, Int.natCast_add, Int.natCast_succ, Nat.zero_add, natCast_one, natCast_zero] <;> omega) | fail) only [go_sem, h, ej, ej2, hlg, g1])))
    | ((first | with_reducible apply left_callf | with_reducible apply leftD_callf); (· with_reducible rfl); (· (simp (maxSteps := 1000000) (disch := first | omega | (simp only [List.length_append, List.length_cons, List.length_nil, List.length_map, bitsOf_len, readB_len, Int.natCast_add, Int.natCast_succ, Nat.zero_add, natCast_one, natCast_zero] <;> omega) | fail) only [go_sem, ej, ej2, hlg, g1]) <;> rfl); (· (first | exact Less_spec ..)); try (simp (maxSteps := 1000000) (disch := first | omega | (simp only [List.length_append, List.length_cons, List.length_nil, List.length_map, bitsOf_len, readB_len, Int.natCast_add, Int.natCast_succ, Nat.zero_add, natCast_one, natCast_zero] <;> omega) | fail) only [go_sem, ej, ej2, hlg, g1]))))
      all_goals (try omega)
      refine ⟨j + 1, ⟨hI, hex, fun h => by omega, hjs⟩, wk_by [0] ?_⟩
      (simp (maxSteps := 1000000) (disch := first | omega | (simp only [List.length_append, List.length_cons, List.length_nil, List.length_map, bitsOf_len, readB_len, Int.natCast_add, Int.natCast_succ, Nat.zero_add, natCast_one, natCast_zero] <;> omega) | fail) only [go_sem, ej, ej2])
  rintro j ⟨hI, hex, hex2, hjs⟩
  have hib := hI.ij
  have hjb := hI.jb
  have hi0 := hI.i0
  have hlg := rowF_len n g
  have g1 := rowF_get g (show a < n by omega)
  obtain ⟨j, rfl⟩ : ∃ k, j = k + 1 := ⟨j - 1, by omega⟩
  have ej : ((j + 1 : Nat) : Int) - 1 = j := by omega
  have ej2 : (j : Int) + 1 - 1 = j := by omega
  have g2 := rowF_get g (show j < n by omega)
  (simp (maxSteps := 1000000) (disch := first | omega | (simp only [List.length_append, List.length_cons, List.length_nil, List.length_map, bitsOf_len, readB_len, Int.natCast_add, Int.natCast_succ, Nat.zero_add, natCast_one, natCast_zero] <;> omega) | fail) only [go_sem, ej, ej2])
  by_cases hlt : i < j + 1
  · have g3 := rowF_get g (show i < n by omega)
    have hs := swp_row n g i j
    have hr := swp_get g (i := i) (show j < n by omega)
    have hsw := hI.swap hlt (hex hlt) (hex2 hlt)
    rw [Nat.add_sub_cancel] at hsw
    obtain ⟨hlt2, hst2⟩ := hsw
    (repeat' (first
    | ((first | with_reducible refine aw_seq ?_ | with_reducible refine aw_region (aops_run ?_) | (with_reducible refine aw_regionD (fun _ => .p) mixed ?_ (dops_run ?_); (· kernel_rfl)) | (with_reducible refine aw_regionD (fun _ => .r) mixed ?_ (dops_run ?_); (· kernel_rfl)) | with_reducible refine aw_condK ?_ | with_reducible refine aw_skip ?_ | with_reducible refine aw_ret ?_ | with_reducible refine aw_exit ?_ | with_reducible refine aw_label ?_ | with_reducible refine aw_block ?_ | with_reducible refine aw_scope ?_ | with_reducible refine And.intro ?_ ?_) <;> (try (simp (maxSteps := 1000000) (disch := first | omega | (simp only [List.length_append, List.length_cons, List.length_nil, List.length_map, bitsOf_len, readB_len, Int.natCast_add, Int.natCast_succ, Nat.zero_add, natCast_one, natCast_zero] <;> omega) | fail) only [go_sem, ej, ej2, hlg, g2, g3, hs, hr])))
    | ((first | with_reducible refine wantK_split (fun h => ?_) (fun h => ?_) | with_reducible refine condK_split (fun h => ?_) (fun h => ?_) | with_reducible refine pickV_split (fun h => ?_) (fun h => ?_)) <;> (try (simp (maxSteps := 1000000) (disch := first | omega | (simp only [List.length_append, List.length_cons, List.length_nil, List.length_map, bitsOf_len, readB_len, Int.natCast_add, Int.natCast_succ, Nat.zero_add, natCast_one, natCast_zero] <;> omega) | fail) only [go_sem] at h)) <;> (try (simp (maxSteps := 1000000) (disch := first | omega | (simp only [List.length_append, List.length_cons, List.length_nil, List.length_map, bitsOf_len, readB_len, Int.natCast_add, Int.natCast_succ, Nat.zero_add, natCast_one, natCast_zero] <;> omega) | fail) only [go_sem, h, ej, ej2, hlg, g2, g3, hs, hr])))))
    all_goals (try omega)
    clear hI hex hex2 hst hs0 hr0 hs hr g1 g2 g3 hlg
    generalize swp g i j = g at *
    refine aw_loop (α := Nat × Nat × (Nat → Int)) (fun x => ⟨168, sl [(0, .msl 0 0 n n), (1, .iv (.int .i64 a)), (10, .iv (.int .i64 x.1)), (11, .iv (.int .i64 ((x.2.1 : Int) - 1)))], rwM n x.2.2, 1⟩)
      (fun x => PtI (fun y => y < p) f x.2.2 a b x.1 x.2.1 p) (fun x => x.2.1) (i + 1, j, g) (wk_by [0] ?_) hst2 ?_
    · (simp (maxSteps := 1000000) (disch := first | omega | (simp only [List.length_append, List.length_cons, List.length_nil, List.length_map, bitsOf_len, readB_len, Int.natCast_add, Int.natCast_succ, Nat.zero_add, natCast_one, natCast_zero] <;> omega) | fail) only [go_sem])
    rintro ⟨i, jj, g⟩ hst
    dsimp only at hst
    (repeat' (first
    | ((first | with_reducible refine aw_seq ?_ | with_reducible refine aw_region (aops_run ?_) | (with_reducible refine aw_regionD (fun _ => .p) mixed ?_ (dops_run ?_); (· kernel_rfl)) | (with_reducible refine aw_regionD (fun _ => .r) mixed ?_ (dops_run ?_); (· kernel_rfl)) | with_reducible refine aw_condK ?_ | with_reducible refine aw_skip ?_ | with_reducible refine aw_ret ?_ | with_reducible refine aw_exit ?_ | with_reducible refine aw_label ?_ | with_reducible refine aw_block ?_ | with_reducible refine aw_scope ?_ | with_reducible refine And.intro ?_ ?_) <;> (try (simp (maxSteps := 1000000) (disch := first | omega | (simp only [List.length_append, List.length_cons, List.length_nil, List.length_map, bitsOf_len, readB_len, Int.natCast_add, Int.natCast_succ, Nat.zero_add, natCast_one, natCast_zero] <;> omega) | fail) only [go_sem])))
    | ((first | with_reducible refine wantK_split (fun h => ?_) (fun h => ?_) | with_reducible refine condK_split (fun h => ?_) (fun h => ?_) | with_reducible refine pickV_split (fun h => ?_) (fun h => ?_)) <;> (try (simp (maxSteps := 1000000) (disch := first | omega | (simp only [List.length_append, List.length_cons, List.length_nil, List.length_map, bitsOf_len, readB_len, Int.natCast_add, Int.natCast_succ, Nat.zero_add, natCast_one, natCast_zero] <;> omega) | fail) only [go_sem] at h)) <;> (try (simp (maxSteps := 1000000) (disch := first | omega | (simp only [List.length_append, List.length_cons, List.length_nil, List.length_map, bitsOf_len, readB_len, Int.natCast_add, Int.natCast_succ, Nat.zero_add, natCast_one, natCast_zero] <;> omega) | fail) only [go_sem, h])))))
    refine aw_postE (β := Nat) (fun i => ⟨168, sl [(0, .msl 0 0 n n), (1, .iv (.int .i64 a)), (10, .iv (.int .i64 i)), (11, .iv (.int .i64 ((jj : Int) - 1)))], rwM n g, 1⟩)
      (fun i => PtI (fun x => x < p) f g a b i jj p ∧ (i < jj → ¬ (fun x => x < p) (g i))) ?_ ?_
    · refine aw_loop (α := Nat) (fun i => ⟨168, sl [(0, .msl 0 0 n n), (1, .iv (.int .i64 a)), (10, .iv (.int .i64 i)), (11, .iv (.int .i64 ((jj : Int) - 1)))], rwM n g, 1⟩)
        (fun i => PtI (fun x => x < p) f g a b i jj p) (fun i => jj - i) i (wk_by [0] ?_) hst ?_
      · (simp (maxSteps := 1000000) (disch := first | omega | (simp only [List.length_append, List.length_cons, List.length_nil, List.length_map, bitsOf_len, readB_len, Int.natCast_add, Int.natCast_succ, Nat.zero_add, natCast_one, natCast_zero] <;> omega) | fail) only [go_sem])
      rintro i hI
      have hib := hI.ij
      have hjb := hI.jb
      have hi0 := hI.i0
      have gga := hI.ga
      have hlg := rowF_len n g
      have g1 := rowF_get g (show a < n by omega)
      rw [gga] at g1
      by_cases hlt : i < jj
      · have g2 := rowF_get g (show i < n by omega)
        by_cases hless : g i < p
        · (repeat' (first
    | ((first | with_reducible refine aw_seq ?_ | with_reducible refine aw_region (aops_run ?_) | (with_reducible refine aw_regionD (fun _ => .p) mixed ?_ (dops_run ?_); (· kernel_rfl)) | (with_reducible refine aw_regionD (fun _ => .r) mixed ?_ (dops_run ?_); (· kernel_rfl)) | with_reducible refine aw_condK ?_ | with_reducible refine aw_skip ?_ | with_reducible refine aw_ret ?_ | with_reducible refine aw_exit ?_ | with_reducible refine aw_label ?_ | with_reducible refine aw_block ?_ | with_reducible refine aw_scope ?_ | with_reducible refine And.intro ?_ ?_) <;> (try (simp (maxSteps := 1000000) (disch := first | omega | (simp only [List.length_append, List.length_cons, List.length_nil, List.length_map, bitsOf_len, readB_len, Int.natCast_add, Int.natCast_succ, Nat.zero_add, natCast_one, natCast_zero] <;> omega) | fail) only [go_sem, hlg, g1, g2, hless, decide_true, decide_false])))
    | ((first | with_reducible refine wantK_split (fun h => ?_) (fun h => ?_) | with_reducible refine condK_split (fun h => ?_) (fun h => ?_) | with_reducible refine pickV_split (fun h => ?_) (fun h => ?_)) <;> (try (simp (maxSteps := 1000000) (disch := first | omega | (simp only [List.length_append, List.length_cons, List.length_nil, List.length_map, bitsOf_len, readB_len, Int.natCast_add, Int.natCast_succ, Nat.zero_add, natCast_one, natCast_zero] <;> omega) | fail) only [go_sem] at h)) <;> (try (simp (maxSteps := 1000000) (disch := first | omega | (simp only [List.length_append, List.length_cons, List.length_nil, List.length_map, bitsOf_len, readB_len, Int.natCast_add, Int.natCast_succ, Nat.zero_add, natCast_one, natCast_zero] <;> omega) | fail) only [go_sem, h, hlg, g1, g2, hless, decide_true, decide_false])))
    | ((first | with_reducible apply left_callf | with_reducible apply leftD_callf); (· with_reducible rfl); (· (simp (maxSteps := 1000000) (disch := first | omega | (simp only [List.length_append, List.length_cons, List.length_nil, List.length_map, bitsOf_len, readB_len, Int.natCast_add, Int.natCast_succ, Nat.zero_add, natCast_one, natCast_zero] <;> omega) | fail) only [go_sem, hlg, g1, g2, hless, decide_true, decide_false]) <;> rfl); (· (first | exact Less_spec ..)); try (simp (maxSteps := 1000000) (disch := first | omega | (simp only [List.length_append, List.length_cons, List.length_nil, List.length_map, bitsOf_len, readB_len, Int.natCast_add, Int.natCast_succ, Nat.zero_add, natCast_one, natCast_zero] <;> omega) | fail) only [go_sem, hlg, g1, g2, hless, decide_true, decide_false]))))
          all_goals (try omega)
          refine ⟨i + 1, hI.inc hlt hless, wk_by [0] ?_, by omega⟩
          (simp (maxSteps := 1000000) (disch := first | omega | (simp only [List.length_append, List.length_cons, List.length_nil, List.length_map, bitsOf_len, readB_len, Int.natCast_add, Int.natCast_succ, Nat.zero_add, natCast_one, natCast_zero] <;> omega) | fail) only [go_sem])
        · (repeat' (first
    | ((first | with_reducible refine aw_seq ?_ | with_reducible refine aw_region (aops_run ?_) | (with_reducible refine aw_regionD (fun _ => .p) mixed ?_ (dops_run ?_); (· kernel_rfl)) | (with_reducible refine aw_regionD (fun _ => .r) mixed ?_ (dops_run ?_); (· kernel_rfl)) | with_reducible refine aw_condK ?_ | with_reducible refine aw_skip ?_ | with_reducible refine aw_ret ?_ | with_reducible refine aw_exit ?_ | with_reducible refine aw_label ?_ | with_reducible refine aw_block ?_ | with_reducible refine aw_scope ?_ | with_reducible refine And.intro ?_ ?_) <;> (try (simp (maxSteps := 1000000) (disch := first | omega | (simp only [List.length_append, List.length_cons, List.length_nil, List.length_map, bitsOf_len, readB_len, Int.natCast_add, Int.natCast_succ, Nat.zero_add, natCast_one, natCast_zero] <;> omega) | fail) only [go_sem, hlg, g1, g2, hless, decide_true, decide_false])))
    | ((first | with_reducible refine wantK_split (fun h => ?_) (fun h => ?_) | with_reducible refine condK_split (fun h => ?_) (fun h => ?_) | with_reducible refine pickV_split (fun h => ?_) (fun h => ?_)) <;> (try (simp (maxSteps := 1000000) (disch := first | omega | (simp only [List.length_append, List.length_cons, List.length_nil, List.length_map, bitsOf_len, readB_len, Int.natCast_add, Int.natCast_succ, Nat.zero_add, natCast_one, natCast_zero] <;> omega) | fail) only [go_sem] at h)) <;> (try (simp (maxSteps := 1000000) (disch := first | omega | (simp only [List.length_append, List.length_cons, List.length_nil, List.length_map, bitsOf_len, readB_len, Int.natCast_add, Int.natCast_succ, Nat.zero_add, natCast_one, natCast_zero] <;> omega) | fail) only [go_sem, h, hlg, g1, g2, hless, decide_true, decide_false])))
    | ((first | with_reducible apply left_callf | with_reducible apply leftD_callf); (· with_reducible rfl); (· (simp (maxSteps := 1000000) (disch := first | omega | (simp only [List.length_append, List.length_cons, List.length_nil, List.length_map, bitsOf_len, readB_len, Int.natCast_add, Int.natCast_succ, Nat.zero_add, natCast_one, natCast_zero] <;> omega) | fail) only [go_sem, hlg, g1, g2, hless, decide_true, decide_false]) <;> rfl); (· (first | exact Less_spec ..)); try (simp (maxSteps := 1000000) (disch := first | omega | (simp only [List.length_append, List.length_cons, List.length_nil, List.length_map, bitsOf_len, readB_len, Int.natCast_add, Int.natCast_succ, Nat.zero_add, natCast_one, natCast_zero] <;> omega) | fail) only [go_sem, hlg, g1, g2, hless, decide_true, decide_false]))))
          all_goals (try omega)
          refine ⟨i, ⟨hI, fun _ => hless⟩, wk_by [0] ?_⟩
          (simp (maxSteps := 1000000) (disch := first | omega | (simp only [List.length_append, List.length_cons, List.length_nil, List.length_map, bitsOf_len, readB_len, Int.natCast_add, Int.natCast_succ, Nat.zero_add, natCast_one, natCast_zero] <;> omega) | fail) only [go_sem])
      · (repeat' (first
    | ((first | with_reducible refine aw_seq ?_ | with_reducible refine aw_region (aops_run ?_) | (with_reducible refine aw_regionD (fun _ => .p) mixed ?_ (dops_run ?_); (· kernel_rfl)) | (with_reducible refine aw_regionD (fun _ => .r) mixed ?_ (dops_run ?_); (· kernel_rfl)) | with_reducible refine aw_condK ?_ | with_reducible refine aw_skip ?_ | with_reducible refine aw_ret ?_ | with_reducible refine aw_exit ?_ | with_reducible refine aw_label ?_ | with_reducible refine aw_block ?_ | with_reducible refine aw_scope ?_ | with_reducible refine And.intro ?_ ?_) <;> (try (simp (maxSteps := 1000000) (disch := first | omega | (simp only [List.length_append, List.length_cons, List.length_nil, List.length_map, bitsOf_len, readB_len, Int.natCast_add, Int.natCast_succ, Nat.zero_add, natCast_one, natCast_zero] <;> omega) | fail) only [go_sem, hlg, g1])))
    | ((first | with_reducible refine wantK_split (fun h => ?_) (fun h => ?_) | with_reducible refine condK_split (fun h => ?_) (fun h => ?_) | with_reducible refine pickV_split (fun h => ?_) (fun h => ?_)) <;> (try (simp (maxSteps := 1000000) (disch := first | omega | (simp only [List.length_append, List.length_cons, List.length_nil, List.length_map, bitsOf_len, readB_len, Int.natCast_add, Int.natCast_succ, Nat.zero_add, natCast_one, natCast_zero] <;> omega) | fail) only [go_sem] at h)) <;> (try (simp (maxSteps := 1000000) (disch := first | omega | (simp only [List.length_append, List.length_cons, List.length_nil, List.length_map, bitsOf_len, readB_len, Int.natCast_add, Int.natCast_succ, Nat.zero_add, natCast_one, natCast_zero] <;> omega) | fail) only [go_sem, h, hlg, g1])))
    | ((first | with_reducible apply left_callf | with_reducible apply leftD_callf); (· with_reducible rfl); (· (simp (maxSteps := 1000000) (disch := first | omega | (simp only [List.length_append, List.length_cons, List.length_nil, List.length_map, bitsOf_len, readB_len, Int.natCast_add, Int.natCast_succ, Nat.zero_add, natCast_one, natCast_zero] <;> omega) | fail) only [go_sem, hlg, g1]) <;> rfl); (· (first | exact Less_spec ..)); try (simp (maxSteps := 1000000) (disch := first | omega | (simp only [List.length_append, List.length_cons, List.length_nil, List.length_map, bitsOf_len, readB_len, Int.natCast_add, Int.natCast_succ, Nat.zero_add, natCast_one, natCast_zero] <;> omega) | fail) only [go_sem, hlg, g1]))))
        all_goals (try omega)
        refine ⟨i, ⟨hI, fun h => by omega⟩, wk_by [0] ?_⟩
        (simp (maxSteps := 1000000) (disch := first | omega | (simp only [List.length_append, List.length_cons, List.length_nil, List.length_map, bitsOf_len, readB_len, Int.natCast_add, Int.natCast_succ, Nat.zero_add, natCast_one, natCast_zero] <;> omega) | fail) only [go_sem])
    rintro i ⟨hI, hex⟩
    (simp (maxSteps := 1000000) (disch := first | omega | (simp only [List.length_append, List.length_cons, List.length_nil, List.length_map, bitsOf_len, readB_len, Int.natCast_add, Int.natCast_succ, Nat.zero_add, natCast_one, natCast_zero] <;> omega) | fail) only [go_sem])
    (repeat' (first
    | ((first | with_reducible refine aw_seq ?_ | with_reducible refine aw_region (aops_run ?_) | (with_reducible refine aw_regionD (fun _ => .p) mixed ?_ (dops_run ?_); (· kernel_rfl)) | (with_reducible refine aw_regionD (fun _ => .r) mixed ?_ (dops_run ?_); (· kernel_rfl)) | with_reducible refine aw_condK ?_ | with_reducible refine aw_skip ?_ | with_reducible refine aw_ret ?_ | with_reducible refine aw_exit ?_ | with_reducible refine aw_label ?_ | with_reducible refine aw_block ?_ | with_reducible refine aw_scope ?_ | with_reducible refine And.intro ?_ ?_) <;> (try (simp (maxSteps := 1000000) (disch := first | omega | (simp only [List.length_append, List.length_cons, List.length_nil, List.length_map, bitsOf_len, readB_len, Int.natCast_add, Int.natCast_succ, Nat.zero_add, natCast_one, natCast_zero] <;> omega) | fail) only [go_sem])))
    | ((first | with_reducible refine wantK_split (fun h => ?_) (fun h => ?_) | with_reducible refine condK_split (fun h => ?_) (fun h => ?_) | with_reducible refine pickV_split (fun h => ?_) (fun h => ?_)) <;> (try (simp (maxSteps := 1000000) (disch := first | omega | (simp only [List.length_append, List.length_cons, List.length_nil, List.length_map, bitsOf_len, readB_len, Int.natCast_add, Int.natCast_succ, Nat.zero_add, natCast_one, natCast_zero] <;> omega) | fail) only [go_sem] at h)) <;> (try (simp (maxSteps := 1000000) (disch := first | omega | (simp only [List.length_append, List.length_cons, List.length_nil, List.length_map, bitsOf_len, readB_len, Int.natCast_add, Int.natCast_succ, Nat.zero_add, natCast_one, natCast_zero] <;> omega) | fail) only [go_sem, h])))))
    refine aw_postE (β := Nat) (fun j => ⟨168, sl [(0, .msl 0 0 n n), (1, .iv (.int .i64 a)), (10, .iv (.int .i64 i)), (11, .iv (.int .i64 ((j : Int) - 1)))], rwM n g, 1⟩)
      (fun j => PtI (fun x => x < p) f g a b i j p ∧ (i < j → ¬ (fun x => x < p) (g i)) ∧ (i < j → (fun x => x < p) (g (j - 1))) ∧ j ≤ jj) ?_ ?_
    · refine aw_loop (α := Nat) (fun j => ⟨168, sl [(0, .msl 0 0 n n), (1, .iv (.int .i64 a)), (10, .iv (.int .i64 i)), (11, .iv (.int .i64 ((j : Int) - 1)))], rwM n g, 1⟩)
        (fun j => PtI (fun x => x < p) f g a b i j p ∧ (i < j → ¬ (fun x => x < p) (g i)) ∧ j ≤ jj) (fun j => j) jj (wk_by [0] ?_) ⟨hI, hex, Nat.le_refl _⟩ ?_
      · (simp (maxSteps := 1000000) (disch := first | omega | (simp only [List.length_append, List.length_cons, List.length_nil, List.length_map, bitsOf_len, readB_len, Int.natCast_add, Int.natCast_succ, Nat.zero_add, natCast_one, natCast_zero] <;> omega) | fail) only [go_sem])
      rintro j ⟨hI, hex, hjs⟩
      have hib := hI.ij
      have hjb := hI.jb
      have hi0 := hI.i0
      have gga := hI.ga
      have hlg := rowF_len n g
      have g1 := rowF_get g (show a < n by omega)
      rw [gga] at g1
      obtain ⟨j, rfl⟩ : ∃ k, j = k + 1 := ⟨j - 1, by omega⟩
      have ej : ((j + 1 : Nat) : Int) - 1 = j := by omega
      have ej2 : (j : Int) + 1 - 1 = j := by omega
      by_cases hlt : i < j + 1
      · have g2 := rowF_get g (show j < n by omega)
        by_cases hless : g j < p
        · (repeat' (first
    | ((first | with_reducible refine aw_seq ?_ | with_reducible refine aw_region (aops_run ?_) | (with_reducible refine aw_regionD (fun _ => .p) mixed ?_ (dops_run ?_); (· kernel_rfl)) | (with_reducible refine aw_regionD (fun _ => .r) mixed ?_ (dops_run ?_); (· kernel_rfl)) | with_reducible refine aw_condK ?_ | with_reducible refine aw_skip ?_ | with_reducible refine aw_ret ?_ | with_reducible refine aw_exit ?_ | with_reducible refine aw_label ?_ | with_reducible refine aw_block ?_ | with_reducible refine aw_scope ?_ | with_reducible refine And.intro ?_ ?_) <;> (try (simp (maxSteps := 1000000) (disch := first | omega | (simp only [List.length_append, List.length_cons, List.length_nil, List.length_map, bitsOf_len, readB_len, Int.natCast_add, Int.natCast_succ, Nat.zero_add, natCast_one, natCast_zero] <;> omega) | fail) only [go_sem, ej, ej2, hlg, g1, g2, hless, decide_true, decide_false])))
    | ((first | with_reducible refine wantK_split (fun h => ?_) (fun h => ?_) | with_reducible refine condK_split (fun h => ?_) (fun h => ?_) | with_reducible refine pickV_split (fun h => ?_) (fun h => ?_)) <;> (try (simp (maxSteps := 1000000) (disch := first | omega | (simp only [List.length_append, List.length_cons, List.length_nil, List.length_map, bitsOf_len, readB_len, Int.natCast_add, Int.natCast_succ, Nat.zero_add, natCast_one, natCast_zero] <;> omega) | fail) only [go_sem] at h)) <;> (try (simp (maxSteps := 1000000) (disch := first | omega | (simp only [List.length_append, List.length_cons, List.length_nil, List.length_map, bitsOf_len, readB_len, Int.natCast_add, Int.natCast_succ, Nat.zero_add, natCast_one, natCast_zero] <;> omega) | fail) only [go_sem, h, ej, ej2, hlg, g1, g2, hless, decide_true, decide_false])))
    | ((first | with_reducible apply left_callf | with_reducible apply leftD_callf); (· with_reducible rfl); (· (simp (maxSteps := 1000000) (disch := first | omega | (simp only [List.length_append, List.length_cons, List.length_nil, List.length_map, bitsOf_len, readB_len, Int.natCast_add, Int.natCast_succ, Nat.zero_add, natCast_one, natCast_zero] <;> omega) | fail) only [go_sem, ej, ej2, hlg, g1, g2, hless, decide_true, decide_false]) <;> rfl); (· (first | exact Less_spec ..)); try (simp (maxSteps := 1000000) (disch := first | omega | (simp only [List.length_append, List.length_cons, List.length_nil, List.length_map, bitsOf_len, readB_len, Int.natCast_add, Int.natCast_succ, Nat.zero_add, natCast_one, natCast_zero] <;> omega) | fail) only [go_sem, ej, ej2, hlg, g1, g2, hless, decide_true, decide_false]))))
          all_goals (try omega)
          refine ⟨j + 1, ⟨hI, hex, fun _ => hless, hjs⟩, wk_by [0] ?_⟩
          (simp (maxSteps := 1000000) (disch := first | omega | (simp only [List.length_append, List.length_cons, List.length_nil, List.length_map, bitsOf_len, readB_len, Int.natCast_add, Int.natCast_succ, Nat.zero_add, natCast_one, natCast_zero] <;> omega) | fail) only [go_sem, ej, ej2])
        · (repeat' (first
    | ((first | with_reducible refine aw_seq ?_ | with_reducible refine aw_region (aops_run ?_) | (with_reducible refine aw_regionD (fun _ => .p) mixed ?_ (dops_run ?_); (· kernel_rfl)) | (with_reducible refine aw_regionD (fun _ => .r) mixed ?_ (dops_run ?_); (· kernel_rfl)) | with_reducible refine aw_condK ?_ | with_reducible refine aw_skip ?_ | with_reducible refine aw_ret ?_ | with_reducible refine aw_exit ?_ | with_reducible refine aw_label ?_ | with_reducible refine aw_block ?_ | with_reducible refine aw_scope ?_ | with_reducible refine And.intro ?_ ?_) <;> (try (simp (maxSteps := 1000000) (disch := first | omega | (simp only [List.length_append, List.length_cons, List.length_nil, List.length_map, bitsOf_len, readB_len, Int.natCast_add, Int.natCast_succ, Nat.zero_add, natCast_one, natCast_zero] <;> omega) | fail) only [go_sem, ej, ej2, hlg, g1, g2, hless, decide_true, decide_false])))
    | ((first | with_reducible refine wantK_split (fun h => ?_) (fun h => ?_) | with_reducible refine condK_split (fun h => ?_) (fun h => ?_) | with_reducible refine pickV_split (fun h => ?_) (fun h => ?_)) <;> (try (simp (maxSteps := 1000000) (disch := first | omega | (simp only [List.length_append, List.length_cons, List.length_nil, List.length_map, bitsOf_len, readB_len, Int.natCast_add, Int.natCast_succ, Nat.zero_add, natCast_one, natCast_zero] <;> omega) | fail) only [go_sem] at h)) <;> (try (simp (maxSteps := 1000000) (disch := first | omega | (simp only [List.length_append, List.length_cons, List.length_nil, List.length_map, bitsOf_len, readB_len, Int.natCast_add, Int.natCast_succ, Nat.zero_add, natCast_one, natCast_zero] <;> omega) | fail) only [go_sem, h, ej, ej2, hlg, g1, g2, hless, decide_true, decide_false])))
    | ((first | with_reducible apply left_callf | with_reducible apply leftD_callf); (· with_reducible rfl); (· (simp (maxSteps := 1000000) (disch := first | omega | (simp only [List.length_append, List.length_cons, List.length_nil, List.length_map, bitsOf_len, readB_len, Int.natCast_add, Int.natCast_succ, Nat.zero_add, natCast_one, natCast_zero] <;> omega) | fail) only [go_sem, ej, ej2, hlg, g1, g2, hless, decide_true, decide_false]) <;> rfl); (· (first | exact Less_spec ..)); try (simp (maxSteps := 1000000) (disch := first | omega | (simp only [List.length_append, List.length_cons, List.length_nil, List.length_map, bitsOf_len, readB_len, Int.natCast_add, Int.natCast_succ, Nat.zero_add, natCast_one, natCast_zero] <;> omega) | fail) only [go_sem, ej, ej2, hlg, g1, g2, hless, decide_true, decide_false]))))
          all_goals (try omega)
          refine ⟨j, ⟨hI.dec hlt hless, fun h => hex (by omega), by omega⟩, wk_by [0] ?_, by omega⟩
          (simp (maxSteps := 1000000) (disch := first | omega | (simp only [List.length_append, List.length_cons, List.length_nil, List.length_map, bitsOf_len, readB_len, Int.natCast_add, Int.natCast_succ, Nat.zero_add, natCast_one, natCast_zero] <;> omega) | fail) only [go_sem])
      · (repeat' (first
    | ((first | with_reducible refine aw_seq ?_ | with_reducible refine aw_region (aops_run ?_) | (with_reducible refine aw_regionD (fun _ => .p) mixed ?_ (dops_run ?_); (· kernel_rfl)) | (with_reducible refine aw_regionD (fun _ => .r) mixed ?_ (dops_run ?_); (· kernel_rfl)) | with_reducible refine aw_condK ?_ | with_reducible refine aw_skip ?_ | with_reducible refine aw_ret ?_ | with_reducible refine aw_exit ?_ | with_reducible refine aw_label ?_ | with_reducible refine aw_block ?_ | with_reducible refine aw_scope ?_ | with_reducible refine And.intro ?_ ?_) <;> (try (simp (maxSteps := 1000000) (disch := first | omega | (simp only [List.length_append, List.length_cons, List.length_nil, List.length_map, bitsOf_len, readB_len, Int.natCast_add, Int.natCast_succ, Nat.zero_add, natCast_one, natCast_zero] <;> omega) | fail) only [go_sem, ej, ej2, hlg, g1])))
    | ((first | with_reducible refine wantK_split (fun h => ?_) (fun h => ?_) | with_reducible refine condK_split (fun h => ?_) (fun h => ?_) | with_reducible refine pickV_split (fun h => ?_) (fun h => ?_)) <;> (try (simp (maxSteps := 1000000) (disch := first | omega | (simp only [List.length_append, List.length_cons, List.length_nil, List.length_map, bitsOf_len, readB_len, Int.natCast_add, Int.natCast_succ, Nat.zero_add, natCast_one, natCast_zero] <;> omega) | fail) only [go_sem] at h)) <;> (try (simp (maxSteps := 1000000) (disch := first | omega | (simp only [List.length_append, List.length_cons, List.length_nil, List.length_map, bitsOf_len, readB_len, Int.natCast_add, Int.natCast_succ, Nat.zero_add, natCast_one, natCast_zero] <;> omega) | fail) only [go_sem, h, ej, ej2, hlg, g1])))
    | ((first | with_reducible apply left_callf | with_reducible apply leftD_callf); (· with_reducible rfl); (· (simp (maxSteps := 1000000) (disch := first | omega | (simp only [List.length_append, List.length_cons, List.length_nil, List.length_map, bitsOf_len, readB_len, Int.natCast_add, Int.natCast_succ, Nat.zero_add, natCast_one, natCast_zero] <;> omega) | fail) only [go_sem, ej, ej2, hlg, g1]) <;> rfl); (· (first | exact Less_spec ..)); try (simp (maxSteps := 1000000) (disch := first | omega | (simp only [List.length_append, List.length_cons, List.length_nil, List.length_map, bitsOf_len, readB_len, Int.natCast_add, Int.natCast_succ, Nat.zero_add, natCast_one, natCast_zero] <;> omega) | fail) only [go_sem, ej, ej2, hlg, g1]))))
        all_goals (try omega)
        refine ⟨j + 1, ⟨hI, hex, fun h => by omega, hjs⟩, wk_by [0] ?_⟩
        (simp (maxSteps := 1000000) (disch := first | omega | (simp only [List.length_append, List.length_cons, List.length_nil, List.length_map, bitsOf_len, readB_len, Int.natCast_add, Int.natCast_succ, Nat.zero_add, natCast_one, natCast_zero] <;> omega) | fail) only [go_sem, ej, ej2])
    rintro j ⟨hI, hex, hex2, hjs⟩
    have hib := hI.ij
    have hjb := hI.jb
    have hi0 := hI.i0
    have hlg := rowF_len n g
    have g1 := rowF_get g (show a < n by omega)
    obtain ⟨j, rfl⟩ : ∃ k, j = k + 1 := ⟨j - 1, by omega⟩
    have ej : ((j + 1 : Nat) : Int) - 1 = j := by omega
    have ej2 : (j : Int) + 1 - 1 = j := by omega
    have g2 := rowF_get g (show j < n by omega)
    (simp (maxSteps := 1000000) (disch := first | omega | (simp only [List.length_append, List.length_cons, List.length_nil, List.length_map, bitsOf_len, readB_len, Int.natCast_add, Int.natCast_succ, Nat.zero_add, natCast_one, natCast_zero] <;> omega) | fail) only [go_sem, ej, ej2])
    by_cases hlt : i < j + 1
    · have g3 := rowF_get g (show i < n by omega)
      have hs := swp_row n g i j
      have hr := swp_get g (i := i) (show j < n by omega)
      have hsw := hI.swap hlt (hex hlt) (hex2 hlt)
      rw [Nat.add_sub_cancel] at hsw
      obtain ⟨hlt2, hst2⟩ := hsw
      (repeat' (first
    | ((first | with_reducible refine aw_seq ?_ | with_reducible refine aw_region (aops_run ?_) | (with_reducible refine aw_regionD (fun _ => .p) mixed ?_ (dops_run ?_); (· kernel_rfl)) | (with_reducible refine aw_regionD (fun _ => .r) mixed ?_ (dops_run ?_); (· kernel_rfl)) | with_reducible refine aw_condK ?_ | with_reducible refine aw_skip ?_ | with_reducible refine aw_ret ?_ | with_reducible refine aw_exit ?_ | with_reducible refine aw_label ?_ | with_reducible refine aw_block ?_ | with_reducible refine aw_scope ?_ | with_reducible refine And.intro ?_ ?_) <;> (try (simp (maxSteps := 1000000) (disch := first | omega | (simp only [List.length_append, List.length_cons, List.length_nil, List.length_map, bitsOf_len, readB_len, Int.natCast_add, Int.natCast_succ, Nat.zero_add, natCast_one, natCast_zero] <;> omega) | fail) only [go_sem, ej, ej2, hlg, g2, g3, hs, hr])))
    | ((first | with_reducible refine wantK_split (fun h => ?_) (fun h => ?_) | with_reducible refine condK_split (fun h => ?_) (fun h => ?_) | with_reducible refine pickV_split (fun h => ?_) (fun h => ?_)) <;> (try (simp (maxSteps := 1000000) (disch := first | omega | (simp only [List.length_append, List.length_cons, List.length_nil, List.length_map, bitsOf_len, readB_len, Int.natCast_add, Int.natCast_succ, Nat.zero_add, natCast_one, natCast_zero] <;> omega) | fail) only [go_sem] at h)) <;> (try (simp (maxSteps := 1000000) (disch := first | omega | (simp only [List.length_append, List.length_cons, List.length_nil, List.length_map, bitsOf_len, readB_len, Int.natCast_add, Int.natCast_succ, Nat.zero_add, natCast_one, natCast_zero] <;> omega) | fail) only [go_sem, h, ej, ej2, hlg, g2, g3, hs, hr])))))
      all_goals (try omega)
      refine ⟨(i + 1, j, swp g i j), hst2, wk_by [0] ?_, by dsimp only; omega⟩
      (simp (maxSteps := 1000000) (disch := first | omega | (simp only [List.length_append, List.length_cons, List.length_nil, List.length_map, bitsOf_len, readB_len, Int.natCast_add, Int.natCast_succ, Nat.zero_add, natCast_one, natCast_zero] <;> omega) | fail) only [go_sem])
    · have hd := hI.done (by omega) (fun x => Iff.rfl)
      rw [Nat.add_sub_cancel] at hd
      have hs := swp_row n g j a
      have hr := swp_get g (i := j) (show a < n by omega)
      (repeat' (first
    | ((first | with_reducible refine aw_seq ?_ | with_reducible refine aw_region (aops_run ?_) | (with_reducible refine aw_regionD (fun _ => .p) mixed ?_ (dops_run ?_); (· kernel_rfl)) | (with_reducible refine aw_regionD (fun _ => .r) mixed ?_ (dops_run ?_); (· kernel_rfl)) | with_reducible refine aw_condK ?_ | with_reducible refine aw_skip ?_ | with_reducible refine aw_ret ?_ | with_reducible refine aw_exit ?_ | with_reducible refine aw_label ?_ | with_reducible refine aw_block ?_ | with_reducible refine aw_scope ?_ | with_reducible refine And.intro ?_ ?_) <;> (try (simp (maxSteps := 1000000) (disch := first | omega | (simp only [List.length_append, List.length_cons, List.length_nil, List.length_map, bitsOf_len, readB_len, Int.natCast_add, Int.natCast_succ, Nat.zero_add, natCast_one, natCast_zero] <;> omega) | fail) only [go_sem, ej, ej2, hlg, g1, g2, hs, hr])))
    | ((first | with_reducible refine wantK_split (fun h => ?_) (fun h => ?_) | with_reducible refine condK_split (fun h => ?_) (fun h => ?_) | with_reducible refine pickV_split (fun h => ?_) (fun h => ?_)) <;> (try (simp (maxSteps := 1000000) (disch := first | omega | (simp only [List.length_append, List.length_cons, List.length_nil, List.length_map, bitsOf_len, readB_len, Int.natCast_add, Int.natCast_succ, Nat.zero_add, natCast_one, natCast_zero] <;> omega) | fail) only [go_sem] at h)) <;> (try (simp (maxSteps := 1000000) (disch := first | omega | (simp only [List.length_append, List.length_cons, List.length_nil, List.length_map, bitsOf_len, readB_len, Int.natCast_add, Int.natCast_succ, Nat.zero_add, natCast_one, natCast_zero] <;> omega) | fail) only [go_sem, h, ej, ej2, hlg, g1, g2, hs, hr])))))
      all_goals (try omega)
      refine ⟨_, _, ⟨swp g j a, rfl, j, false, rfl, by omega, hd⟩, fin_k [0] ?_⟩
      (simp (maxSteps := 1000000) (disch := first | omega | (simp only [List.length_append, List.length_cons, List.length_nil, List.length_map, bitsOf_len, readB_len, Int.natCast_add, Int.natCast_succ, Nat.zero_add, natCast_one, natCast_zero] <;> omega) | fail) only [go_sem])
  · have hd := hI.done (by omega) (fun x => Iff.rfl)
    rw [Nat.add_sub_cancel] at hd
    have hs := swp_row n g j a
    have hr := swp_get g (i := j) (show a < n by omega)
    (repeat' (first
    | ((first | with_reducible refine aw_seq ?_ | with_reducible refine aw_region (aops_run ?_) | (with_reducible refine aw_regionD (fun _ => .p) mixed ?_ (dops_run ?_); (· kernel_rfl)) | (with_reducible refine aw_regionD (fun _ => .r) mixed ?_ (dops_run ?_); (· kernel_rfl)) | with_reducible refine aw_condK ?_ | with_reducible refine aw_skip ?_ | with_reducible refine aw_ret ?_ | with_reducible refine aw_exit ?_ | with_reducible refine aw_label ?_ | with_reducible refine aw_block ?_ | with_reducible refine aw_scope ?_ | with_reducible refine And.intro ?_ ?_) <;> (try (simp (maxSteps := 1000000) (disch := first | omega | (simp only [List.length_append, List.length_cons, List.length_nil, List.length_map, bitsOf_len, readB_len, Int.natCast_add, Int.natCast_succ, Nat.zero_add, natCast_one, natCast_zero] <;> omega) | fail) only [go_sem, ej, ej2, hlg, g1, g2, hs, hr])))
    | ((first | with_reducible refine wantK_split (fun h => ?_) (fun h => ?_) | with_reducible refine condK_split (fun h => ?_) (fun h => ?_) | with_reducible refine pickV_split (fun h => ?_) (fun h => ?_)) <;> (try (simp (maxSteps := 1000000) (disch := first | omega | (simp only [List.length_append, List.length_cons, List.length_nil, List.length_map, bitsOf_len, readB_len, Int.natCast_add, Int.natCast_succ, Nat.zero_add, natCast_one, natCast_zero] <;> omega) | fail) only [go_sem] at h)) <;> (try (simp (maxSteps := 1000000) (disch := first | omega | (simp only [List.length_append, List.length_cons, List.length_nil, List.length_map, bitsOf_len, readB_len, Int.natCast_add, Int.natCast_succ, Nat.zero_add, natCast_one, natCast_zero] <;> omega) | fail) only [go_sem, h, ej, ej2, hlg, g1, g2, hs, hr])))))
    all_goals (try omega)
    refine ⟨_, _, ⟨swp g j a, rfl, j, true, rfl, by omega, hd⟩, fin_k [0] ?_⟩
    (simp (maxSteps := 1000000) (disch := first | omega | (simp only [List.length_append, List.length_cons, List.length_nil, List.length_map, bitsOf_len, readB_len, Int.natCast_add, Int.natCast_succ, Nat.zero_add, natCast_one, natCast_zero] <;> omega) | fail) only [go_sem])
end Go.Proofs.Ytebegdnebjjnmaa.AM
