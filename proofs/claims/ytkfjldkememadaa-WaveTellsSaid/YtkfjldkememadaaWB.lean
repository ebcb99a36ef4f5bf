
/- Chapter 4: the references. No condition but lengths that fit. -/
import Derived.Test.YtkfjldkememadaaW8
set_option linter.unusedVariables false
set_option linter.unusedSimpArgs false
set_option maxRecDepth 20000
namespace Go.Proofs.Ytkfjldkememadaa.AM
open Go Go.RowKit

theorem RefRank4 (l : List Int) (c i : Int) (hl : l.length ≤ 1000000) : PCalls Try.prog 19 [inl l, .int .i64 c, .int .i64 i] (.int .i64 (cP (fun x => decide (x = c)) l (clI l.length i) : Nat)) := by
  obtain ⟨t, ht⟩ : ∃ t, t = clI l.length i := ⟨_, rfl⟩
  rw [← ht]
  have htn : t ≤ l.length := by rw [ht]; exact clI_le _ _
  have hti : t = l.length ∨ i ≤ t := by rw [ht]; unfold clI; omega
  have htk : ∀ k : Nat, k < t → (k : Int) < i := fun k hk => by rw [ht] at hk; unfold clI at hk; omega
  refine PCalls.of_aw Try.func19 rfl (by unfold Callable; kernel_rfl) (by kernel_rfl) (by simp [Try.ntmps19]) ?_; rw [Try.ntmps19, Try.results19]; (simp (disch := first | exact dq | fail) only [go_sem])
  (repeat' (first
    | ((first | with_reducible (first | refine aw_seq ?_ | refine aw_region (aops_run ?_)) | (with_reducible refine aw_regionD (fun _ => .p) mixed ?_ (dops_run ?_); (· kernel_rfl)) | (with_reducible refine aw_regionD (fun _ => .r) mixed ?_ (dops_run ?_); (· kernel_rfl)) | with_reducible (first | refine aw_condK ?_ | refine aw_skip ?_ | refine aw_ret ?_ | refine aw_exit ?_ | refine aw_label ?_ | refine aw_block ?_ | refine aw_scope ?_ | refine And.intro ?_ ?_)) <;> (try (simp (disch := first | exact dq | fail) only [go_sem])))
    | (with_reducible (first | refine wantK_split (fun h => ?_) (fun h => ?_) | refine condK_split (fun h => ?_) (fun h => ?_) | refine pickV_split (fun h => ?_) (fun h => ?_)) <;> (try (simp (disch := first | exact dq | fail) only [go_sem] at h)) <;> (try (simp (disch := first | exact dq | fail) only [go_sem, h])))))
  refine aw_loop (α := Nat) (fun k => ⟨29, sl [(0, .iv (inl l)), (1, .iv (.int .i64 c)), (2, .iv (.int .i64 i)), (7, .iv (.int .i64 (cP (fun x => decide (x = c)) l k : Nat))), (8, .iv (.int .i64 k))], [], 0⟩)
    (fun k => k ≤ t) (fun k => t - k) 0 (wk_by [] ?_) (by omega) ?_
  · (simp (disch := first | exact dq | fail) only [go_sem])
    rfl
  rintro k hk
  have hcp := cP_le (fun x => decide (x = c)) l k
  by_cases h : k < t
  · have c1 : (k : Int) < l.length := by omega
    have c2 := htk k h
    by_cases g : l.getD k 0 = c
    · have e : cP (fun x => decide (x = c)) l (k + 1) = cP (fun x => decide (x = c)) l k + 1 := by rw [cP, if_pos (decide_eq_true g)]
      have e' : ((cP (fun x => decide (x = c)) l k : Nat) : Int) + 1 = (cP (fun x => decide (x = c)) l (k + 1) : Nat) := by omega
      (repeat' (first
    | ((first | with_reducible (first | refine aw_seq ?_ | refine aw_region (aops_run ?_)) | (with_reducible refine aw_regionD (fun _ => .p) mixed ?_ (dops_run ?_); (· kernel_rfl)) | (with_reducible refine aw_regionD (fun _ => .r) mixed ?_ (dops_run ?_); (· kernel_rfl)) | with_reducible (first | refine aw_condK ?_ | refine aw_skip ?_ | refine aw_ret ?_ | refine aw_exit ?_ | refine aw_label ?_ | refine aw_block ?_ | refine aw_scope ?_ | refine And.intro ?_ ?_)) <;> (try (simp (disch := first | exact dq | fail) only [go_sem, c1, c2, eq_true g, e', decide_true])))
    | (with_reducible (first | refine wantK_split (fun h => ?_) (fun h => ?_) | refine condK_split (fun h => ?_) (fun h => ?_) | refine pickV_split (fun h => ?_) (fun h => ?_)) <;> (try (simp (disch := first | exact dq | fail) only [go_sem] at h)) <;> (try (simp (disch := first | exact dq | fail) only [go_sem, h, c1, c2, eq_true g, e', decide_true])))))
      all_goals (try omega)
      refine ⟨k + 1, by omega, wk_by [] ?_, by omega⟩
      (simp (disch := first | exact dq | fail) only [go_sem])
    · have e : cP (fun x => decide (x = c)) l (k + 1) = cP (fun x => decide (x = c)) l k := by rw [cP, if_neg (by simpa using g)]; rfl
      (repeat' (first
    | ((first | with_reducible (first | refine aw_seq ?_ | refine aw_region (aops_run ?_)) | (with_reducible refine aw_regionD (fun _ => .p) mixed ?_ (dops_run ?_); (· kernel_rfl)) | (with_reducible refine aw_regionD (fun _ => .r) mixed ?_ (dops_run ?_); (· kernel_rfl)) | with_reducible (first | refine aw_condK ?_ | refine aw_skip ?_ | refine aw_ret ?_ | refine aw_exit ?_ | refine aw_label ?_ | refine aw_block ?_ | refine aw_scope ?_ | refine And.intro ?_ ?_)) <;> (try (simp (disch := first | exact dq | fail) only [go_sem, c1, c2, eq_false g, decide_true, decide_false])))
    | (with_reducible (first | refine wantK_split (fun h => ?_) (fun h => ?_) | refine condK_split (fun h => ?_) (fun h => ?_) | refine pickV_split (fun h => ?_) (fun h => ?_)) <;> (try (simp (disch := first | exact dq | fail) only [go_sem] at h)) <;> (try (simp (disch := first | exact dq | fail) only [go_sem, h, c1, c2, eq_false g, decide_true, decide_false])))))
      all_goals (try omega)
      refine ⟨k + 1, by omega, wk_by [] ?_, by omega⟩
      (simp (disch := first | exact dq | fail) only [go_sem, e])
  · obtain rfl : k = t := by omega
    by_cases c1 : (k : Int) < l.length
    · have c2 : ¬ (k : Int) < i := by omega
      (repeat' (first
    | ((first | with_reducible (first | refine aw_seq ?_ | refine aw_region (aops_run ?_)) | (with_reducible refine aw_regionD (fun _ => .p) mixed ?_ (dops_run ?_); (· kernel_rfl)) | (with_reducible refine aw_regionD (fun _ => .r) mixed ?_ (dops_run ?_); (· kernel_rfl)) | with_reducible (first | refine aw_condK ?_ | refine aw_skip ?_ | refine aw_ret ?_ | refine aw_exit ?_ | refine aw_label ?_ | refine aw_block ?_ | refine aw_scope ?_ | refine And.intro ?_ ?_)) <;> (try (simp (disch := first | exact dq | fail) only [go_sem, c1, c2, decide_true, decide_false])))
    | (with_reducible (first | refine wantK_split (fun h => ?_) (fun h => ?_) | refine condK_split (fun h => ?_) (fun h => ?_) | refine pickV_split (fun h => ?_) (fun h => ?_)) <;> (try (simp (disch := first | exact dq | fail) only [go_sem] at h)) <;> (try (simp (disch := first | exact dq | fail) only [go_sem, h, c1, c2, decide_true, decide_false])))))
      all_goals (try omega)
    · (repeat' (first
    | ((first | with_reducible (first | refine aw_seq ?_ | refine aw_region (aops_run ?_)) | (with_reducible refine aw_regionD (fun _ => .p) mixed ?_ (dops_run ?_); (· kernel_rfl)) | (with_reducible refine aw_regionD (fun _ => .r) mixed ?_ (dops_run ?_); (· kernel_rfl)) | with_reducible (first | refine aw_condK ?_ | refine aw_skip ?_ | refine aw_ret ?_ | refine aw_exit ?_ | refine aw_label ?_ | refine aw_block ?_ | refine aw_scope ?_ | refine And.intro ?_ ?_)) <;> (try (simp (disch := first | exact dq | fail) only [go_sem, c1, decide_false])))
    | (with_reducible (first | refine wantK_split (fun h => ?_) (fun h => ?_) | refine condK_split (fun h => ?_) (fun h => ?_) | refine pickV_split (fun h => ?_) (fun h => ?_)) <;> (try (simp (disch := first | exact dq | fail) only [go_sem] at h)) <;> (try (simp (disch := first | exact dq | fail) only [go_sem, h, c1, decide_false])))))
      all_goals (try omega)
theorem RefBelow4 (l : List Int) (c i : Int) (hl : l.length ≤ 1000000) : PCalls Try.prog 24 [inl l, .int .i64 c, .int .i64 i] (.int .i64 (cP (fun x => decide (x < c)) l (clI l.length i) : Nat)) := by
  obtain ⟨t, ht⟩ : ∃ t, t = clI l.length i := ⟨_, rfl⟩
  rw [← ht]
  have htn : t ≤ l.length := by rw [ht]; exact clI_le _ _
  have hti : t = l.length ∨ i ≤ t := by rw [ht]; unfold clI; omega
  have htk : ∀ k : Nat, k < t → (k : Int) < i := fun k hk => by rw [ht] at hk; unfold clI at hk; omega
  refine PCalls.of_aw Try.func24 rfl (by unfold Callable; kernel_rfl) (by kernel_rfl) (by simp [Try.ntmps24]) ?_; rw [Try.ntmps24, Try.results24]; (simp (disch := first | exact dq | fail) only [go_sem])
  (repeat' (first
    | ((first | with_reducible (first | refine aw_seq ?_ | refine aw_region (aops_run ?_)) | (with_reducible refine aw_regionD (fun _ => .p) mixed ?_ (dops_run ?_); (· kernel_rfl)) | (with_reducible refine aw_regionD (fun _ => .r) mixed ?_ (dops_run ?_); (· kernel_rfl)) | with_reducible (first | refine aw_condK ?_ | refine aw_skip ?_ | refine aw_ret ?_ | refine aw_exit ?_ | refine aw_label ?_ | refine aw_block ?_ | refine aw_scope ?_ | refine And.intro ?_ ?_)) <;> (try (simp (disch := first | exact dq | fail) only [go_sem])))
    | (with_reducible (first | refine wantK_split (fun h => ?_) (fun h => ?_) | refine condK_split (fun h => ?_) (fun h => ?_) | refine pickV_split (fun h => ?_) (fun h => ?_)) <;> (try (simp (disch := first | exact dq | fail) only [go_sem] at h)) <;> (try (simp (disch := first | exact dq | fail) only [go_sem, h])))))
  refine aw_loop (α := Nat) (fun k => ⟨29, sl [(0, .iv (inl l)), (1, .iv (.int .i64 c)), (2, .iv (.int .i64 i)), (7, .iv (.int .i64 (cP (fun x => decide (x < c)) l k : Nat))), (8, .iv (.int .i64 k))], [], 0⟩)
    (fun k => k ≤ t) (fun k => t - k) 0 (wk_by [] ?_) (by omega) ?_
  · (simp (disch := first | exact dq | fail) only [go_sem])
    rfl
  rintro k hk
  have hcp := cP_le (fun x => decide (x < c)) l k
  by_cases h : k < t
  · have c1 : (k : Int) < l.length := by omega
    have c2 := htk k h
    by_cases g : l.getD k 0 < c
    · have e : cP (fun x => decide (x < c)) l (k + 1) = cP (fun x => decide (x < c)) l k + 1 := by rw [cP, if_pos (decide_eq_true g)]
      have e' : ((cP (fun x => decide (x < c)) l k : Nat) : Int) + 1 = (cP (fun x => decide (x < c)) l (k + 1) : Nat) := by omega
      (repeat' (first
    | ((first | with_reducible (first | refine aw_seq ?_ | refine aw_region (aops_run ?_)) | (with_reducible refine aw_regionD (fun _ => .p) mixed ?_ (dops_run ?_); (· kernel_rfl)) | (with_reducible refine aw_regionD (fun _ => .r) mixed ?_ (dops_run ?_); (· kernel_rfl)) | with_reducible (first | refine aw_condK ?_ | refine aw_skip ?_ | refine aw_ret ?_ | refine aw_exit ?_ | refine aw_label ?_ | refine aw_block ?_ | refine aw_scope ?_ | refine And.intro ?_ ?_)) <;> (try (simp (disch := first | exact dq | fail) only [go_sem, c1, c2, eq_true g, e', decide_true])))
    | (with_reducible (first | refine wantK_split (fun h => ?_) (fun h => ?_) | refine condK_split (fun h => ?_) (fun h => ?_) | refine pickV_split (fun h => ?_) (fun h => ?_)) <;> (try (simp (disch := first | exact dq | fail) only [go_sem] at h)) <;> (try (simp (disch := first | exact dq | fail) only [go_sem, h, c1, c2, eq_true g, e', decide_true])))))
      all_goals (try omega)
      refine ⟨k + 1, by omega, wk_by [] ?_, by omega⟩
      (simp (disch := first | exact dq | fail) only [go_sem])
    · have e : cP (fun x => decide (x < c)) l (k + 1) = cP (fun x => decide (x < c)) l k := by rw [cP, if_neg (by simpa using g)]; rfl
      (repeat' (first
    | ((first | with_reducible (first | refine aw_seq ?_ | refine aw_region (aops_run ?_)) | (with_reducible refine aw_regionD (fun _ => .p) mixed ?_ (dops_run ?_); (· kernel_rfl)) | (with_reducible refine aw_regionD (fun _ => .r) mixed ?_ (dops_run ?_); (· kernel_rfl)) | with_reducible (first | refine aw_condK ?_ | refine aw_skip ?_ | refine aw_ret ?_ | refine aw_exit ?_ | refine aw_label ?_ | refine aw_block ?_ | refine aw_scope ?_ | refine And.intro ?_ ?_)) <;> (try (simp (disch := first | exact dq | fail) only [go_sem, c1, c2, eq_false g, decide_true, decide_false])))
    | (with_reducible (first | refine wantK_split (fun h => ?_) (fun h => ?_) | refine condK_split (fun h => ?_) (fun h => ?_) | refine pickV_split (fun h => ?_) (fun h => ?_)) <;> (try (simp (disch := first | exact dq | fail) only [go_sem] at h)) <;> (try (simp (disch := first | exact dq | fail) only [go_sem, h, c1, c2, eq_false g, decide_true, decide_false])))))
      all_goals (try omega)
      refine ⟨k + 1, by omega, wk_by [] ?_, by omega⟩
      (simp (disch := first | exact dq | fail) only [go_sem, e])
  · obtain rfl : k = t := by omega
    by_cases c1 : (k : Int) < l.length
    · have c2 : ¬ (k : Int) < i := by omega
      (repeat' (first
    | ((first | with_reducible (first | refine aw_seq ?_ | refine aw_region (aops_run ?_)) | (with_reducible refine aw_regionD (fun _ => .p) mixed ?_ (dops_run ?_); (· kernel_rfl)) | (with_reducible refine aw_regionD (fun _ => .r) mixed ?_ (dops_run ?_); (· kernel_rfl)) | with_reducible (first | refine aw_condK ?_ | refine aw_skip ?_ | refine aw_ret ?_ | refine aw_exit ?_ | refine aw_label ?_ | refine aw_block ?_ | refine aw_scope ?_ | refine And.intro ?_ ?_)) <;> (try (simp (disch := first | exact dq | fail) only [go_sem, c1, c2, decide_true, decide_false])))
    | (with_reducible (first | refine wantK_split (fun h => ?_) (fun h => ?_) | refine condK_split (fun h => ?_) (fun h => ?_) | refine pickV_split (fun h => ?_) (fun h => ?_)) <;> (try (simp (disch := first | exact dq | fail) only [go_sem] at h)) <;> (try (simp (disch := first | exact dq | fail) only [go_sem, h, c1, c2, decide_true, decide_false])))))
      all_goals (try omega)
    · (repeat' (first
    | ((first | with_reducible (first | refine aw_seq ?_ | refine aw_region (aops_run ?_)) | (with_reducible refine aw_regionD (fun _ => .p) mixed ?_ (dops_run ?_); (· kernel_rfl)) | (with_reducible refine aw_regionD (fun _ => .r) mixed ?_ (dops_run ?_); (· kernel_rfl)) | with_reducible (first | refine aw_condK ?_ | refine aw_skip ?_ | refine aw_ret ?_ | refine aw_exit ?_ | refine aw_label ?_ | refine aw_block ?_ | refine aw_scope ?_ | refine And.intro ?_ ?_)) <;> (try (simp (disch := first | exact dq | fail) only [go_sem, c1, decide_false])))
    | (with_reducible (first | refine wantK_split (fun h => ?_) (fun h => ?_) | refine condK_split (fun h => ?_) (fun h => ?_) | refine pickV_split (fun h => ?_) (fun h => ?_)) <;> (try (simp (disch := first | exact dq | fail) only [go_sem] at h)) <;> (try (simp (disch := first | exact dq | fail) only [go_sem, h, c1, decide_false])))))
      all_goals (try omega)
theorem RefSel_out (l : List Int) (c k : Int) (hl : l.length ≤ 1000000) (hk : k < 0 ∨ (cP (fun x => decide (x = c)) l l.length : Nat) ≤ k) (hs : small k) : PCalls Try.prog 23 [inl l, .int .i64 c, .int .i64 k] (.int .i64 (-1)) := by
  obtain ⟨s1, s2⟩ := hs
  by_cases h0 : k < 0
  · refine PCalls.of_aw Try.func23 rfl (by unfold Callable; kernel_rfl) (by kernel_rfl) (by simp [Try.ntmps23]) ?_; rw [Try.ntmps23, Try.results23]; (simp (disch := first | exact dq | fail) only [go_sem])
    (repeat' (first
    | ((first | with_reducible (first | refine aw_seq ?_ | refine aw_region (aops_run ?_)) | (with_reducible refine aw_regionD (fun _ => .p) mixed ?_ (dops_run ?_); (· kernel_rfl)) | (with_reducible refine aw_regionD (fun _ => .r) mixed ?_ (dops_run ?_); (· kernel_rfl)) | with_reducible (first | refine aw_condK ?_ | refine aw_skip ?_ | refine aw_ret ?_ | refine aw_exit ?_ | refine aw_label ?_ | refine aw_block ?_ | refine aw_scope ?_ | refine And.intro ?_ ?_)) <;> (try (simp (disch := first | exact dq | fail) only [go_sem, h0, decide_true])))
    | (with_reducible (first | refine wantK_split (fun h => ?_) (fun h => ?_) | refine condK_split (fun h => ?_) (fun h => ?_) | refine pickV_split (fun h => ?_) (fun h => ?_)) <;> (try (simp (disch := first | exact dq | fail) only [go_sem] at h)) <;> (try (simp (disch := first | exact dq | fail) only [go_sem, h, h0, decide_true])))))
  have hk2 : (cP (fun x => decide (x = c)) l l.length : Nat) ≤ k := by omega
  refine PCalls.of_aw Try.func23 rfl (by unfold Callable; kernel_rfl) (by kernel_rfl) (by simp [Try.ntmps23]) ?_; rw [Try.ntmps23, Try.results23]; (simp (disch := first | exact dq | fail) only [go_sem])
  (repeat' (first
    | ((first | with_reducible (first | refine aw_seq ?_ | refine aw_region (aops_run ?_)) | (with_reducible refine aw_regionD (fun _ => .p) mixed ?_ (dops_run ?_); (· kernel_rfl)) | (with_reducible refine aw_regionD (fun _ => .r) mixed ?_ (dops_run ?_); (· kernel_rfl)) | with_reducible (first | refine aw_condK ?_ | refine aw_skip ?_ | refine aw_ret ?_ | refine aw_exit ?_ | refine aw_label ?_ | refine aw_block ?_ | refine aw_scope ?_ | refine And.intro ?_ ?_)) <;> (try (simp (disch := first | exact dq | fail) only [go_sem, h0, decide_false])))
    | (with_reducible (first | refine wantK_split (fun h => ?_) (fun h => ?_) | refine condK_split (fun h => ?_) (fun h => ?_) | refine pickV_split (fun h => ?_) (fun h => ?_)) <;> (try (simp (disch := first | exact dq | fail) only [go_sem] at h)) <;> (try (simp (disch := first | exact dq | fail) only [go_sem, h, h0, decide_false])))))
  refine aw_loop (α := Nat) (fun i => ⟨27, sl [(0, .iv (inl l)), (1, .iv (.int .i64 c)), (2, .iv (.int .i64 (k - (cP (fun x => decide (x = c)) l i : Nat)))), (7, .iv (.int .i64 i))], [], 0⟩)
    (fun i => i ≤ l.length) (fun i => l.length - i) 0 (wk_by [] ?_) (by omega) ?_
  · (simp (disch := first | exact dq | fail) only [go_sem])
    have : (cP (fun x => decide (x = c)) l 0) = 0 := rfl
    rw [this]; simp
  rintro i hi
  have hcp := cP_le (fun x => decide (x = c)) l i
  have hmo : ∀ d i, i + d = l.length → cP (fun x => decide (x = c)) l i ≤ cP (fun x => decide (x = c)) l l.length := by
    intro d
    induction d with
    | zero => intro i hi; rw [show i = l.length by omega]; exact Nat.le_refl _
    | succ d ih =>
      intro i hi
      have := ih (i + 1) (by omega)
      rw [cP] at this
      omega
  by_cases h : i < l.length
  · have c1 : (i : Int) < l.length := by omega
    have hm := hmo (l.length - (i + 1)) (i + 1) (by omega)
    by_cases g : l.getD i 0 = c
    · have e : cP (fun x => decide (x = c)) l (i + 1) = cP (fun x => decide (x = c)) l i + 1 := by rw [cP, if_pos (decide_eq_true g)]
      have hz : ¬ (k - (cP (fun x => decide (x = c)) l i : Nat) = 0) := by omega
      have e' : k - ((cP (fun x => decide (x = c)) l i : Nat) : Int) - 1 = k - (cP (fun x => decide (x = c)) l (i + 1) : Nat) := by omega
      (repeat' (first
    | ((first | with_reducible (first | refine aw_seq ?_ | refine aw_region (aops_run ?_)) | (with_reducible refine aw_regionD (fun _ => .p) mixed ?_ (dops_run ?_); (· kernel_rfl)) | (with_reducible refine aw_regionD (fun _ => .r) mixed ?_ (dops_run ?_); (· kernel_rfl)) | with_reducible (first | refine aw_condK ?_ | refine aw_skip ?_ | refine aw_ret ?_ | refine aw_exit ?_ | refine aw_label ?_ | refine aw_block ?_ | refine aw_scope ?_ | refine And.intro ?_ ?_)) <;> (try (simp (disch := first | exact dq | fail) only [go_sem, c1, eq_true g, hz, e', decide_true, decide_false])))
    | (with_reducible (first | refine wantK_split (fun h => ?_) (fun h => ?_) | refine condK_split (fun h => ?_) (fun h => ?_) | refine pickV_split (fun h => ?_) (fun h => ?_)) <;> (try (simp (disch := first | exact dq | fail) only [go_sem] at h)) <;> (try (simp (disch := first | exact dq | fail) only [go_sem, h, c1, eq_true g, hz, e', decide_true, decide_false])))))
      all_goals (try omega)
      refine ⟨i + 1, by omega, wk_by [] ?_, by omega⟩
      (simp (disch := first | exact dq | fail) only [go_sem])
    · have e : cP (fun x => decide (x = c)) l (i + 1) = cP (fun x => decide (x = c)) l i := by rw [cP, if_neg (by simpa using g)]; rfl
      (repeat' (first
    | ((first | with_reducible (first | refine aw_seq ?_ | refine aw_region (aops_run ?_)) | (with_reducible refine aw_regionD (fun _ => .p) mixed ?_ (dops_run ?_); (· kernel_rfl)) | (with_reducible refine aw_regionD (fun _ => .r) mixed ?_ (dops_run ?_); (· kernel_rfl)) | with_reducible (first | refine aw_condK ?_ | refine aw_skip ?_ | refine aw_ret ?_ | refine aw_exit ?_ | refine aw_label ?_ | refine aw_block ?_ | refine aw_scope ?_ | refine And.intro ?_ ?_)) <;> (try (simp (disch := first | exact dq | fail) only [go_sem, c1, eq_false g, decide_true, decide_false])))
    | (with_reducible (first | refine wantK_split (fun h => ?_) (fun h => ?_) | refine condK_split (fun h => ?_) (fun h => ?_) | refine pickV_split (fun h => ?_) (fun h => ?_)) <;> (try (simp (disch := first | exact dq | fail) only [go_sem] at h)) <;> (try (simp (disch := first | exact dq | fail) only [go_sem, h, c1, eq_false g, decide_true, decide_false])))))
      all_goals (try omega)
      refine ⟨i + 1, by omega, wk_by [] ?_, by omega⟩
      (simp (disch := first | exact dq | fail) only [go_sem, e])
  · have c1 : ¬ (i : Int) < l.length := by omega
    (repeat' (first
    | ((first | with_reducible (first | refine aw_seq ?_ | refine aw_region (aops_run ?_)) | (with_reducible refine aw_regionD (fun _ => .p) mixed ?_ (dops_run ?_); (· kernel_rfl)) | (with_reducible refine aw_regionD (fun _ => .r) mixed ?_ (dops_run ?_); (· kernel_rfl)) | with_reducible (first | refine aw_condK ?_ | refine aw_skip ?_ | refine aw_ret ?_ | refine aw_exit ?_ | refine aw_label ?_ | refine aw_block ?_ | refine aw_scope ?_ | refine And.intro ?_ ?_)) <;> (try (simp (disch := first | exact dq | fail) only [go_sem, c1, decide_false])))
    | (with_reducible (first | refine wantK_split (fun h => ?_) (fun h => ?_) | refine condK_split (fun h => ?_) (fun h => ?_) | refine pickV_split (fun h => ?_) (fun h => ?_)) <;> (try (simp (disch := first | exact dq | fail) only [go_sem] at h)) <;> (try (simp (disch := first | exact dq | fail) only [go_sem, h, c1, decide_false])))))
    all_goals (try omega)
theorem RefSel_in (l : List Int) (c : Int) (q : Nat) (hq : q < l.length) (hl : l.length ≤ 1000000) (hqc : l.getD q 0 = c) : PCalls Try.prog 23 [inl l, .int .i64 c, .int .i64 (cP (fun x => decide (x = c)) l q : Nat)] (.int .i64 q) := by
  have hle := cP_le (fun x => decide (x = c)) l q
  obtain ⟨k, hk⟩ : ∃ k, k = cP (fun x => decide (x = c)) l q := ⟨_, rfl⟩
  rw [← hk] at hle ⊢
  have h0 : ¬ ((k : Int) < 0) := by omega
  refine PCalls.of_aw Try.func23 rfl (by unfold Callable; kernel_rfl) (by kernel_rfl) (by simp [Try.ntmps23]) ?_; rw [Try.ntmps23, Try.results23]; (simp (disch := first | exact dq | fail) only [go_sem])
  (repeat' (first
    | ((first | with_reducible (first | refine aw_seq ?_ | refine aw_region (aops_run ?_)) | (with_reducible refine aw_regionD (fun _ => .p) mixed ?_ (dops_run ?_); (· kernel_rfl)) | (with_reducible refine aw_regionD (fun _ => .r) mixed ?_ (dops_run ?_); (· kernel_rfl)) | with_reducible (first | refine aw_condK ?_ | refine aw_skip ?_ | refine aw_ret ?_ | refine aw_exit ?_ | refine aw_label ?_ | refine aw_block ?_ | refine aw_scope ?_ | refine And.intro ?_ ?_)) <;> (try (simp (disch := first | exact dq | fail) only [go_sem, h0, decide_false])))
    | (with_reducible (first | refine wantK_split (fun h => ?_) (fun h => ?_) | refine condK_split (fun h => ?_) (fun h => ?_) | refine pickV_split (fun h => ?_) (fun h => ?_)) <;> (try (simp (disch := first | exact dq | fail) only [go_sem] at h)) <;> (try (simp (disch := first | exact dq | fail) only [go_sem, h, h0, decide_false])))))
  refine aw_loop (α := Nat) (fun i => ⟨27, sl [(0, .iv (inl l)), (1, .iv (.int .i64 c)), (2, .iv (.int .i64 (k - (cP (fun x => decide (x = c)) l i : Nat)))), (7, .iv (.int .i64 i))], [], 0⟩)
    (fun i => i ≤ q) (fun i => q - i) 0 (wk_by [] ?_) (by omega) ?_
  · (simp (disch := first | exact dq | fail) only [go_sem])
    have : (cP (fun x => decide (x = c)) l 0) = 0 := rfl
    rw [this]; simp
  rintro i hi
  have hcp := cP_le (fun x => decide (x = c)) l i
  have hmo : ∀ d i, i + d = q → cP (fun x => decide (x = c)) l i ≤ cP (fun x => decide (x = c)) l q := by
    intro d
    induction d with
    | zero => intro i hi; rw [show i = q by omega]; exact Nat.le_refl _
    | succ d ih =>
      intro i hi
      have := ih (i + 1) (by omega)
      rw [cP] at this
      omega
  have c1 : (i : Int) < l.length := by omega
  by_cases h : i < q
  · have hm := hmo (q - (i + 1)) (i + 1) (by omega)
    rw [← hk] at hm
    by_cases g : l.getD i 0 = c
    · have e : cP (fun x => decide (x = c)) l (i + 1) = cP (fun x => decide (x = c)) l i + 1 := by rw [cP, if_pos (decide_eq_true g)]
      have hz : ¬ ((k : Int) - (cP (fun x => decide (x = c)) l i : Nat) = 0) := by omega
      have e' : (k : Int) - ((cP (fun x => decide (x = c)) l i : Nat) : Int) - 1 = k - (cP (fun x => decide (x = c)) l (i + 1) : Nat) := by omega
      (repeat' (first
    | ((first | with_reducible (first | refine aw_seq ?_ | refine aw_region (aops_run ?_)) | (with_reducible refine aw_regionD (fun _ => .p) mixed ?_ (dops_run ?_); (· kernel_rfl)) | (with_reducible refine aw_regionD (fun _ => .r) mixed ?_ (dops_run ?_); (· kernel_rfl)) | with_reducible (first | refine aw_condK ?_ | refine aw_skip ?_ | refine aw_ret ?_ | refine aw_exit ?_ | refine aw_label ?_ | refine aw_block ?_ | refine aw_scope ?_ | refine And.intro ?_ ?_)) <;> (try (simp (disch := first | exact dq | fail) only [go_sem, c1, eq_true g, hz, e', decide_true, decide_false])))
    | (with_reducible (first | refine wantK_split (fun h => ?_) (fun h => ?_) | refine condK_split (fun h => ?_) (fun h => ?_) | refine pickV_split (fun h => ?_) (fun h => ?_)) <;> (try (simp (disch := first | exact dq | fail) only [go_sem] at h)) <;> (try (simp (disch := first | exact dq | fail) only [go_sem, h, c1, eq_true g, hz, e', decide_true, decide_false])))))
      all_goals (try omega)
      refine ⟨i + 1, by omega, wk_by [] ?_, by omega⟩
      (simp (disch := first | exact dq | fail) only [go_sem])
    · have e : cP (fun x => decide (x = c)) l (i + 1) = cP (fun x => decide (x = c)) l i := by rw [cP, if_neg (by simpa using g)]; rfl
      (repeat' (first
    | ((first | with_reducible (first | refine aw_seq ?_ | refine aw_region (aops_run ?_)) | (with_reducible refine aw_regionD (fun _ => .p) mixed ?_ (dops_run ?_); (· kernel_rfl)) | (with_reducible refine aw_regionD (fun _ => .r) mixed ?_ (dops_run ?_); (· kernel_rfl)) | with_reducible (first | refine aw_condK ?_ | refine aw_skip ?_ | refine aw_ret ?_ | refine aw_exit ?_ | refine aw_label ?_ | refine aw_block ?_ | refine aw_scope ?_ | refine And.intro ?_ ?_)) <;> (try (simp (disch := first | exact dq | fail) only [go_sem, c1, eq_false g, decide_true, decide_false])))
    | (with_reducible (first | refine wantK_split (fun h => ?_) (fun h => ?_) | refine condK_split (fun h => ?_) (fun h => ?_) | refine pickV_split (fun h => ?_) (fun h => ?_)) <;> (try (simp (disch := first | exact dq | fail) only [go_sem] at h)) <;> (try (simp (disch := first | exact dq | fail) only [go_sem, h, c1, eq_false g, decide_true, decide_false])))))
      all_goals (try omega)
      refine ⟨i + 1, by omega, wk_by [] ?_, by omega⟩
      (simp (disch := first | exact dq | fail) only [go_sem, e])
  · obtain rfl : i = q := by omega
    have hz : (k : Int) - (cP (fun x => decide (x = c)) l i : Nat) = 0 := by omega
    (repeat' (first
    | ((first | with_reducible (first | refine aw_seq ?_ | refine aw_region (aops_run ?_)) | (with_reducible refine aw_regionD (fun _ => .p) mixed ?_ (dops_run ?_); (· kernel_rfl)) | (with_reducible refine aw_regionD (fun _ => .r) mixed ?_ (dops_run ?_); (· kernel_rfl)) | with_reducible (first | refine aw_condK ?_ | refine aw_skip ?_ | refine aw_ret ?_ | refine aw_exit ?_ | refine aw_label ?_ | refine aw_block ?_ | refine aw_scope ?_ | refine And.intro ?_ ?_)) <;> (try (simp (disch := first | exact dq | fail) only [go_sem, c1, eq_true hqc, hz, eq_self, decide_true])))
    | (with_reducible (first | refine wantK_split (fun h => ?_) (fun h => ?_) | refine condK_split (fun h => ?_) (fun h => ?_) | refine pickV_split (fun h => ?_) (fun h => ?_)) <;> (try (simp (disch := first | exact dq | fail) only [go_sem] at h)) <;> (try (simp (disch := first | exact dq | fail) only [go_sem, h, c1, eq_true hqc, hz, eq_self, decide_true])))))
    all_goals (try omega)
theorem RefMost_spec (l : List Int) (hl : l.length ≤ 1000000) : PCalls Try.prog 56 [inl l] (.int .i64 (mostI l)) := by
  refine PCalls.of_aw Try.func56 rfl (by unfold Callable; kernel_rfl) (by kernel_rfl) (by simp [Try.ntmps56]) ?_; rw [Try.ntmps56, Try.results56]; (simp (disch := first | exact dq | fail) only [go_sem])
  (repeat' (first
    | ((first | with_reducible (first | refine aw_seq ?_ | refine aw_region (aops_run ?_)) | (with_reducible refine aw_regionD (fun _ => .p) mixed ?_ (dops_run ?_); (· kernel_rfl)) | (with_reducible refine aw_regionD (fun _ => .r) mixed ?_ (dops_run ?_); (· kernel_rfl)) | with_reducible (first | refine aw_condK ?_ | refine aw_skip ?_ | refine aw_ret ?_ | refine aw_exit ?_ | refine aw_label ?_ | refine aw_block ?_ | refine aw_scope ?_ | refine And.intro ?_ ?_)) <;> (try (simp (disch := first | exact dq | fail) only [go_sem])))
    | (with_reducible (first | refine wantK_split (fun h => ?_) (fun h => ?_) | refine condK_split (fun h => ?_) (fun h => ?_) | refine pickV_split (fun h => ?_) (fun h => ?_)) <;> (try (simp (disch := first | exact dq | fail) only [go_sem] at h)) <;> (try (simp (disch := first | exact dq | fail) only [go_sem, h])))))
  refine aw_loop (α := Nat) (fun i => ⟨22, sl [(0, .iv (inl l)), (3, .iv (.int .i64 (mostI (l.take i)))), (4, .iv (.int .i64 i))], [], 0⟩)
    (fun i => i ≤ l.length) (fun i => l.length - i) 0 (wk_by [] ?_) (by omega) ?_
  · (simp (disch := first | exact dq | fail) only [go_sem])
    rfl
  rintro i hi
  by_cases h : i < l.length
  · have c1 : (i : Int) < l.length := by omega
    have ht := take_snoc l h
    have hm := mostI_snoc (l.take i) (l.getD i 0)
    rw [← ht] at hm
    by_cases g : l.getD i 0 > mostI (l.take i)
    · rw [show max (mostI (l.take i)) (l.getD i 0) = l.getD i 0 by omega] at hm
      (repeat' (first
    | ((first | with_reducible (first | refine aw_seq ?_ | refine aw_region (aops_run ?_)) | (with_reducible refine aw_regionD (fun _ => .p) mixed ?_ (dops_run ?_); (· kernel_rfl)) | (with_reducible refine aw_regionD (fun _ => .r) mixed ?_ (dops_run ?_); (· kernel_rfl)) | with_reducible (first | refine aw_condK ?_ | refine aw_skip ?_ | refine aw_ret ?_ | refine aw_exit ?_ | refine aw_label ?_ | refine aw_block ?_ | refine aw_scope ?_ | refine And.intro ?_ ?_)) <;> (try (simp (disch := first | exact dq | fail) only [go_sem, c1, eq_true g, decide_true])))
    | (with_reducible (first | refine wantK_split (fun h => ?_) (fun h => ?_) | refine condK_split (fun h => ?_) (fun h => ?_) | refine pickV_split (fun h => ?_) (fun h => ?_)) <;> (try (simp (disch := first | exact dq | fail) only [go_sem] at h)) <;> (try (simp (disch := first | exact dq | fail) only [go_sem, h, c1, eq_true g, decide_true])))))
      all_goals (try omega)
      refine ⟨i + 1, by omega, wk_by [] ?_, by omega⟩
      (simp (disch := first | exact dq | fail) only [go_sem, hm])
    · rw [show max (mostI (l.take i)) (l.getD i 0) = mostI (l.take i) by omega] at hm
      (repeat' (first
    | ((first | with_reducible (first | refine aw_seq ?_ | refine aw_region (aops_run ?_)) | (with_reducible refine aw_regionD (fun _ => .p) mixed ?_ (dops_run ?_); (· kernel_rfl)) | (with_reducible refine aw_regionD (fun _ => .r) mixed ?_ (dops_run ?_); (· kernel_rfl)) | with_reducible (first | refine aw_condK ?_ | refine aw_skip ?_ | refine aw_ret ?_ | refine aw_exit ?_ | refine aw_label ?_ | refine aw_block ?_ | refine aw_scope ?_ | refine And.intro ?_ ?_)) <;> (try (simp (disch := first | exact dq | fail) only [go_sem, c1, eq_false g, decide_true, decide_false])))
    | (with_reducible (first | refine wantK_split (fun h => ?_) (fun h => ?_) | refine condK_split (fun h => ?_) (fun h => ?_) | refine pickV_split (fun h => ?_) (fun h => ?_)) <;> (try (simp (disch := first | exact dq | fail) only [go_sem] at h)) <;> (try (simp (disch := first | exact dq | fail) only [go_sem, h, c1, eq_false g, decide_true, decide_false])))))
      all_goals (try omega)
      refine ⟨i + 1, by omega, wk_by [] ?_, by omega⟩
      (simp (disch := first | exact dq | fail) only [go_sem, hm])
  · obtain rfl : i = l.length := by omega
    have c1 : ¬ (l.length : Int) < l.length := by omega
    rw [List.take_length]
    (repeat' (first
    | ((first | with_reducible (first | refine aw_seq ?_ | refine aw_region (aops_run ?_)) | (with_reducible refine aw_regionD (fun _ => .p) mixed ?_ (dops_run ?_); (· kernel_rfl)) | (with_reducible refine aw_regionD (fun _ => .r) mixed ?_ (dops_run ?_); (· kernel_rfl)) | with_reducible (first | refine aw_condK ?_ | refine aw_skip ?_ | refine aw_ret ?_ | refine aw_exit ?_ | refine aw_label ?_ | refine aw_block ?_ | refine aw_scope ?_ | refine And.intro ?_ ?_)) <;> (try (simp (disch := first | exact dq | fail) only [go_sem, c1, decide_false])))
    | (with_reducible (first | refine wantK_split (fun h => ?_) (fun h => ?_) | refine condK_split (fun h => ?_) (fun h => ?_) | refine pickV_split (fun h => ?_) (fun h => ?_)) <;> (try (simp (disch := first | exact dq | fail) only [go_sem] at h)) <;> (try (simp (disch := first | exact dq | fail) only [go_sem, h, c1, decide_false])))))
    all_goals (try omega)
end Go.Proofs.Ytkfjldkememadaa.AM
