
/- Chapter 6: plain facts on ranks. No condition. -/
import Derived.Test.YtebegdnebjjnmaaQ12
set_option linter.unusedVariables false
set_option linter.unusedSimpArgs false
set_option maxRecDepth 20000
namespace Go.Proofs.Ytebegdnebjjnmaa.AM
open Go Go.RowKit

theorem pair_get {D : List Int} (h : D.Pairwise (· < ·)) {i j : Nat} (hij : i < j) (hj : j < D.length) : D.getD i 0 < D.getD j 0 := by
  have := List.pairwise_iff_getElem.1 h i j (by omega) hj hij
  simpa [List.getD, List.getElem?_eq_getElem, hj, show i < D.length by omega] using this
/-- In a list that rises each number is found where it stands. -/
theorem find_at {D : List Int} (h : D.Pairwise (· < ·)) {j : Nat} (hj : j < D.length) : findI D (D.getD j 0) = j :=
  findI_at (fun k hk => pair_get h hk hj) (by omega) (.inr (Int.le_refl _))
theorem find_of {D : List Int} (h : D.Pairwise (· < ·)) {x : Int} (hx : x ∈ D) : findI D x < D.length ∧ D.getD (findI D x) 0 = x := by
  obtain ⟨j, hj, e⟩ := List.mem_iff_getElem.1 hx
  have e2 : D.getD j 0 = x := by simp [List.getD, List.getElem?_eq_getElem hj, e]
  rw [← e2, find_at h hj]
  exact ⟨hj, rfl⟩
theorem rank_get {l : List Int} {i : Nat} (h : i < l.length) : (rankL l).getD i 0 = (findI (setI l) (l.getD i 0) : Int) := by
  unfold rankL
  simp [List.getD, List.getElem?_eq_getElem h]
theorem rank_range {l : List Int} {i : Nat} (h : i < l.length) : 0 ≤ (rankL l).getD i 0 ∧ (rankL l).getD i 0 < (setI l).length := by
  rw [rank_get h]
  have := find_of (setI_pair l) (setI_mem.2 (getD_mem h))
  omega
theorem rank_lt {l : List Int} {i k : Nat} (hi : i < l.length) (hk : k < l.length) : (rankL l).getD i 0 < (rankL l).getD k 0 ↔ l.getD i 0 < l.getD k 0 := by
  rw [rank_get hi, rank_get hk]
  have h1 := find_of (setI_pair l) (setI_mem.2 (getD_mem hi))
  have h2 := find_of (setI_pair l) (setI_mem.2 (getD_mem hk))
  constructor
  · intro h
    have := pair_get (setI_pair l) (i := findI (setI l) (l.getD i 0)) (j := findI (setI l) (l.getD k 0)) (by omega) h2.1
    rw [h1.2, h2.2] at this; exact this
  · intro h
    rcases Nat.lt_trichotomy (findI (setI l) (l.getD i 0)) (findI (setI l) (l.getD k 0)) with g | g | g
    · omega
    · have e1 := h1.2
      rw [g, h2.2] at e1; omega
    · have := pair_get (setI_pair l) g h1.1
      rw [h1.2, h2.2] at this; omega
theorem rank_eq {l : List Int} {i k : Nat} (hi : i < l.length) (hk : k < l.length) : (rankL l).getD i 0 = (rankL l).getD k 0 ↔ l.getD i 0 = l.getD k 0 := by
  have h1 := rank_lt hi hk
  have h2 := rank_lt hk hi
  omega
theorem rank_all {l : List Int} {c : Int} (h0 : 0 ≤ c) (h1 : c < (setI l).length) : c ∈ rankL l := by
  have hm : (setI l).getD c.toNat 0 ∈ l := setI_mem.1 (getD_mem (by omega))
  unfold rankL
  rw [List.mem_map]
  refine ⟨_, hm, ?_⟩
  rw [find_at (setI_pair l) (by omega)]; omega
theorem first_at {l : List Int} {c : Int} (h : c ∈ l) : ∃ j, j < l.length ∧ l.getD j 0 = c ∧ ∀ m, m < j → l.getD m 0 ≠ c := by
  induction l with
  | nil => simp at h
  | cons x l ih =>
    by_cases e : x = c
    · exact ⟨0, by simp, by simpa using e, fun m hm => by omega⟩
    · rcases List.mem_cons.1 h with h | h
      · exact absurd h.symm e
      · obtain ⟨j, h1, h2, h3⟩ := ih h
        refine ⟨j + 1, by simp; omega, by simpa using h2, fun m hm => ?_⟩
        cases m with
        | zero => simpa using e
        | succ m => simpa using h3 m (by omega)
theorem Sel0_spec (l : List Int) (c : Int) (hl : l.length ≤ 1000000) (hc : c ∈ l) : ∃ v : Nat, PCalls Try.prog 19 [inl l, .int .i64 c, .int .i64 0] (.int .i64 v) := by
  obtain ⟨j0, h1, h2, h3⟩ := first_at hc
  refine ⟨j0, ?_⟩
  refine PCalls.of_aw Try.func19 rfl (by unfold Callable; kernel_rfl) (by kernel_rfl) (by simp [Try.ntmps19]) ?_; rw [Try.ntmps19, Try.results19]; (simp (maxSteps := 1000000) (disch := first | omega | (simp only [List.length_append, List.length_cons, List.length_nil, List.length_map, bitsOf_len, readB_len, Int.natCast_add, Int.natCast_succ, Nat.zero_add, natCast_one, natCast_zero] <;> omega) | fail) only [go_sem])
  (repeat' (first
    | ((first | with_reducible refine aw_seq ?_ | with_reducible refine aw_region (aops_run ?_) | (with_reducible refine aw_regionD (fun _ => .p) mixed ?_ (dops_run ?_); (· kernel_rfl)) | (with_reducible refine aw_regionD (fun _ => .r) mixed ?_ (dops_run ?_); (· kernel_rfl)) | with_reducible refine aw_condK ?_ | with_reducible refine aw_skip ?_ | with_reducible refine aw_ret ?_ | with_reducible refine aw_exit ?_ | with_reducible refine aw_label ?_ | with_reducible refine aw_block ?_ | with_reducible refine aw_scope ?_ | with_reducible refine And.intro ?_ ?_) <;> (try (simp (maxSteps := 1000000) (disch := first | omega | (simp only [List.length_append, List.length_cons, List.length_nil, List.length_map, bitsOf_len, readB_len, Int.natCast_add, Int.natCast_succ, Nat.zero_add, natCast_one, natCast_zero] <;> omega) | fail) only [go_sem])))
    | ((first | with_reducible refine wantK_split (fun h => ?_) (fun h => ?_) | with_reducible refine condK_split (fun h => ?_) (fun h => ?_) | with_reducible refine pickV_split (fun h => ?_) (fun h => ?_)) <;> (try (simp (maxSteps := 1000000) (disch := first | omega | (simp only [List.length_append, List.length_cons, List.length_nil, List.length_map, bitsOf_len, readB_len, Int.natCast_add, Int.natCast_succ, Nat.zero_add, natCast_one, natCast_zero] <;> omega) | fail) only [go_sem] at h)) <;> (try (simp (maxSteps := 1000000) (disch := first | omega | (simp only [List.length_append, List.length_cons, List.length_nil, List.length_map, bitsOf_len, readB_len, Int.natCast_add, Int.natCast_succ, Nat.zero_add, natCast_one, natCast_zero] <;> omega) | fail) only [go_sem, h])))))
  refine aw_loop (α := Nat) (fun i => ⟨27, sl [(0, .iv (inl l)), (1, .iv (.int .i64 c)), (2, .iv (.int .i64 0)), (7, .iv (.int .i64 i))], [], 0⟩)
    (fun i => i ≤ j0) (fun i => j0 - i) 0 (wk_by [] ?_) (by omega) ?_
  · (simp (maxSteps := 1000000) (disch := first | omega | (simp only [List.length_append, List.length_cons, List.length_nil, List.length_map, bitsOf_len, readB_len, Int.natCast_add, Int.natCast_succ, Nat.zero_add, natCast_one, natCast_zero] <;> omega) | fail) only [go_sem])
  rintro i hi
  by_cases e : i = j0
  · subst e
    (repeat' (first
    | ((first | with_reducible refine aw_seq ?_ | with_reducible refine aw_region (aops_run ?_) | (with_reducible refine aw_regionD (fun _ => .p) mixed ?_ (dops_run ?_); (· kernel_rfl)) | (with_reducible refine aw_regionD (fun _ => .r) mixed ?_ (dops_run ?_); (· kernel_rfl)) | with_reducible refine aw_condK ?_ | with_reducible refine aw_skip ?_ | with_reducible refine aw_ret ?_ | with_reducible refine aw_exit ?_ | with_reducible refine aw_label ?_ | with_reducible refine aw_block ?_ | with_reducible refine aw_scope ?_ | with_reducible refine And.intro ?_ ?_) <;> (try (simp (maxSteps := 1000000) (disch := first | omega | (simp only [List.length_append, List.length_cons, List.length_nil, List.length_map, bitsOf_len, readB_len, Int.natCast_add, Int.natCast_succ, Nat.zero_add, natCast_one, natCast_zero] <;> omega) | fail) only [go_sem, h2, decide_true])))
    | ((first | with_reducible refine wantK_split (fun h => ?_) (fun h => ?_) | with_reducible refine condK_split (fun h => ?_) (fun h => ?_) | with_reducible refine pickV_split (fun h => ?_) (fun h => ?_)) <;> (try (simp (maxSteps := 1000000) (disch := first | omega | (simp only [List.length_append, List.length_cons, List.length_nil, List.length_map, bitsOf_len, readB_len, Int.natCast_add, Int.natCast_succ, Nat.zero_add, natCast_one, natCast_zero] <;> omega) | fail) only [go_sem] at h)) <;> (try (simp (maxSteps := 1000000) (disch := first | omega | (simp only [List.length_append, List.length_cons, List.length_nil, List.length_map, bitsOf_len, readB_len, Int.natCast_add, Int.natCast_succ, Nat.zero_add, natCast_one, natCast_zero] <;> omega) | fail) only [go_sem, h, h2, decide_true])))))
    all_goals (try omega)
  · have hne := h3 i (by omega)
    (repeat' (first
    | ((first | with_reducible refine aw_seq ?_ | with_reducible refine aw_region (aops_run ?_) | (with_reducible refine aw_regionD (fun _ => .p) mixed ?_ (dops_run ?_); (· kernel_rfl)) | (with_reducible refine aw_regionD (fun _ => .r) mixed ?_ (dops_run ?_); (· kernel_rfl)) | with_reducible refine aw_condK ?_ | with_reducible refine aw_skip ?_ | with_reducible refine aw_ret ?_ | with_reducible refine aw_exit ?_ | with_reducible refine aw_label ?_ | with_reducible refine aw_block ?_ | with_reducible refine aw_scope ?_ | with_reducible refine And.intro ?_ ?_) <;> (try (simp (maxSteps := 1000000) (disch := first | omega | (simp only [List.length_append, List.length_cons, List.length_nil, List.length_map, bitsOf_len, readB_len, Int.natCast_add, Int.natCast_succ, Nat.zero_add, natCast_one, natCast_zero] <;> omega) | fail) only [go_sem, hne, decide_false])))
    | ((first | with_reducible refine wantK_split (fun h => ?_) (fun h => ?_) | with_reducible refine condK_split (fun h => ?_) (fun h => ?_) | with_reducible refine pickV_split (fun h => ?_) (fun h => ?_)) <;> (try (simp (maxSteps := 1000000) (disch := first | omega | (simp only [List.length_append, List.length_cons, List.length_nil, List.length_map, bitsOf_len, readB_len, Int.natCast_add, Int.natCast_succ, Nat.zero_add, natCast_one, natCast_zero] <;> omega) | fail) only [go_sem] at h)) <;> (try (simp (maxSteps := 1000000) (disch := first | omega | (simp only [List.length_append, List.length_cons, List.length_nil, List.length_map, bitsOf_len, readB_len, Int.natCast_add, Int.natCast_succ, Nat.zero_add, natCast_one, natCast_zero] <;> omega) | fail) only [go_sem, h, hne, decide_false])))))
    all_goals (try omega)
    refine ⟨i + 1, by omega, wk_by [] ?_, by omega⟩
    (simp (maxSteps := 1000000) (disch := first | omega | (simp only [List.length_append, List.length_cons, List.length_nil, List.length_map, bitsOf_len, readB_len, Int.natCast_add, Int.natCast_succ, Nat.zero_add, natCast_one, natCast_zero] <;> omega) | fail) only [go_sem])
end Go.Proofs.Ytebegdnebjjnmaa.AM
