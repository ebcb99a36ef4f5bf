
/- Chapter 8: Turn, the document's Turn, Index, Contains, Min, steps. No condition but lengths that fit. -/
import Derived.Test.YtejhomoafhnipaaU2
set_option linter.unusedVariables false
set_option linter.unusedSimpArgs false
set_option maxRecDepth 20000
namespace Go.Proofs.Ytejhomoafhnipaa.AM
open Go Go.RowKit

theorem neg1_spec (n : Int) : MCalls Try.prog 55 [.iv (.int .i64 n)] [] (.iv (.bool (decide (n < 0)))) [] := by
  refine MCalls.of_aw Try.func55 rfl (by unfold Callable; kernel_rfl) (by kernel_rfl) (by simp [Try.ntmps55]) (by (simp (disch := first | exact dq | fail) only [go_sem])) ?_; rw [Try.ntmps55, Try.results55]; (simp (disch := first | exact dq | fail) only [go_sem])
  (repeat' (first
    | ((first | with_reducible (first | refine aw_seq ?_ | refine aw_region (aops_run ?_)) | (with_reducible refine aw_regionD (fun _ => .p) mixed ?_ (dops_run ?_); (· kernel_rfl)) | (with_reducible refine aw_regionD (fun _ => .r) mixed ?_ (dops_run ?_); (· kernel_rfl)) | with_reducible (first | refine aw_condK ?_ | refine aw_skip ?_ | refine aw_ret ?_ | refine aw_exit ?_ | refine aw_label ?_ | refine aw_block ?_ | refine aw_scope ?_ | refine And.intro ?_ ?_)) <;> (try (simp (disch := first | exact dq | fail) only [go_sem])))
    | (with_reducible (first | refine wantK_split (fun h => ?_) (fun h => ?_) | refine condK_split (fun h => ?_) (fun h => ?_) | refine pickV_split (fun h => ?_) (fun h => ?_)) <;> (try (simp (disch := first | exact dq | fail) only [go_sem] at h)) <;> (try (simp (disch := first | exact dq | fail) only [go_sem, h])))))
  refine fin_k [] ?_
  (simp (disch := first | exact dq | fail) only [go_sem])
theorem IndexFunc0_spec (f : Nat) (p : Int → Bool) (hp : ∀ n, MCalls Try.prog f [.iv (.int .i64 n)] [] (.iv (.bool (p n))) []) (l : List Int) (hl : l.length ≤ 1000000) :
    PCalls Try.prog 72 [inl l, .fnc f] (.int .i64 (idxP p l)) := by
  refine PCalls.of_aw Try.func72 rfl (by unfold Callable; kernel_rfl) (by kernel_rfl) (by simp [Try.ntmps72]) ?_; rw [Try.ntmps72, Try.results72]; (simp (disch := first | exact dq | fail) only [go_sem])
  (repeat' (first
    | ((first | with_reducible (first | refine aw_seq ?_ | refine aw_region (aops_run ?_)) | (with_reducible refine aw_regionD (fun _ => .p) mixed ?_ (dops_run ?_); (· kernel_rfl)) | (with_reducible refine aw_regionD (fun _ => .r) mixed ?_ (dops_run ?_); (· kernel_rfl)) | with_reducible (first | refine aw_condK ?_ | refine aw_skip ?_ | refine aw_ret ?_ | refine aw_exit ?_ | refine aw_label ?_ | refine aw_block ?_ | refine aw_scope ?_ | refine And.intro ?_ ?_)) <;> (try (simp (disch := first | exact dq | fail) only [go_sem])))
    | (with_reducible (first | refine wantK_split (fun h => ?_) (fun h => ?_) | refine condK_split (fun h => ?_) (fun h => ?_) | refine pickV_split (fun h => ?_) (fun h => ?_)) <;> (try (simp (disch := first | exact dq | fail) only [go_sem] at h)) <;> (try (simp (disch := first | exact dq | fail) only [go_sem, h])))))
  refine aw_loop (α := Nat) (fun j => ⟨19, sl [(0, .iv (inl l)), (1, .iv (.fnc f)), (7, .iv (.int .i64 l.length)), (8, .iv (.int .i64 j))], [], 0⟩)
    (fun j => j ≤ l.length ∧ ∀ k, k < j → p (l.getD k 0) = false) (fun j => l.length - j) 0 (wk_by [] ?_) ⟨by omega, by omega⟩ ?_
  · (simp (disch := first | exact dq | fail) only [go_sem])
  rintro j ⟨hj, hk⟩
  by_cases h : j < l.length
  · have hc : (j : Int) < l.length := by omega
    have hpj := hp (l.getD j 0)
    have ha := @idxP_at p l j h hk
    obtain ⟨B, hB⟩ : ∃ B, p (l.getD j 0) = B := ⟨_, rfl⟩
    rw [hB] at hpj ha
    (repeat' (first
    | ((first | with_reducible (first | refine aw_seq ?_ | refine aw_region (aops_run ?_)) | (with_reducible refine aw_regionD (fun _ => .p) mixed ?_ (dops_run ?_); (· kernel_rfl)) | (with_reducible refine aw_regionD (fun _ => .r) mixed ?_ (dops_run ?_); (· kernel_rfl)) | with_reducible (first | refine aw_condK ?_ | refine aw_skip ?_ | refine aw_ret ?_ | refine aw_exit ?_ | refine aw_label ?_ | refine aw_block ?_ | refine aw_scope ?_ | refine And.intro ?_ ?_)) <;> (try (simp (disch := first | exact dq | fail) only [go_sem, hc, decide_true])))
    | (with_reducible (first | refine wantK_split (fun h => ?_) (fun h => ?_) | refine condK_split (fun h => ?_) (fun h => ?_) | refine pickV_split (fun h => ?_) (fun h => ?_)) <;> (try (simp (disch := first | exact dq | fail) only [go_sem] at h)) <;> (try (simp (disch := first | exact dq | fail) only [go_sem, h, hc, decide_true])))))
    all_goals (try omega)
    ((first | with_reducible refine left_callMs [] (hpj) ?_ ?_ | with_reducible refine leftD_callMs [] rfl (hpj) ?_ ?_ | with_reducible refine leftD_callRs [] (by decide) (hpj) ?_ ?_); (· (simp (disch := first | exact dq | fail) only [go_sem])); try (simp (disch := first | exact dq | fail) only [go_sem]))
    cases B with
    | true =>
      (repeat' (first
    | ((first | with_reducible (first | refine aw_seq ?_ | refine aw_region (aops_run ?_)) | (with_reducible refine aw_regionD (fun _ => .p) mixed ?_ (dops_run ?_); (· kernel_rfl)) | (with_reducible refine aw_regionD (fun _ => .r) mixed ?_ (dops_run ?_); (· kernel_rfl)) | with_reducible (first | refine aw_condK ?_ | refine aw_skip ?_ | refine aw_ret ?_ | refine aw_exit ?_ | refine aw_label ?_ | refine aw_block ?_ | refine aw_scope ?_ | refine And.intro ?_ ?_)) <;> (try (simp (disch := first | exact dq | fail) only [go_sem])))
    | (with_reducible (first | refine wantK_split (fun h => ?_) (fun h => ?_) | refine condK_split (fun h => ?_) (fun h => ?_) | refine pickV_split (fun h => ?_) (fun h => ?_)) <;> (try (simp (disch := first | exact dq | fail) only [go_sem] at h)) <;> (try (simp (disch := first | exact dq | fail) only [go_sem, h])))))
      all_goals (try omega)
      rw [ha rfl]
    | false =>
      (repeat' (first
    | ((first | with_reducible (first | refine aw_seq ?_ | refine aw_region (aops_run ?_)) | (with_reducible refine aw_regionD (fun _ => .p) mixed ?_ (dops_run ?_); (· kernel_rfl)) | (with_reducible refine aw_regionD (fun _ => .r) mixed ?_ (dops_run ?_); (· kernel_rfl)) | with_reducible (first | refine aw_condK ?_ | refine aw_skip ?_ | refine aw_ret ?_ | refine aw_exit ?_ | refine aw_label ?_ | refine aw_block ?_ | refine aw_scope ?_ | refine And.intro ?_ ?_)) <;> (try (simp (disch := first | exact dq | fail) only [go_sem])))
    | (with_reducible (first | refine wantK_split (fun h => ?_) (fun h => ?_) | refine condK_split (fun h => ?_) (fun h => ?_) | refine pickV_split (fun h => ?_) (fun h => ?_)) <;> (try (simp (disch := first | exact dq | fail) only [go_sem] at h)) <;> (try (simp (disch := first | exact dq | fail) only [go_sem, h])))))
      all_goals (try omega)
      refine ⟨j + 1, ⟨by omega, fun k hkj => ?_⟩, wk_by [] ?_, by omega⟩
      · by_cases e : k = j
        · subst e; exact hB
        · exact hk k (by omega)
      · (simp (disch := first | exact dq | fail) only [go_sem])
  · have hc : ¬ ((j : Int) < l.length) := by omega
    (repeat' (first
    | ((first | with_reducible (first | refine aw_seq ?_ | refine aw_region (aops_run ?_)) | (with_reducible refine aw_regionD (fun _ => .p) mixed ?_ (dops_run ?_); (· kernel_rfl)) | (with_reducible refine aw_regionD (fun _ => .r) mixed ?_ (dops_run ?_); (· kernel_rfl)) | with_reducible (first | refine aw_condK ?_ | refine aw_skip ?_ | refine aw_ret ?_ | refine aw_exit ?_ | refine aw_label ?_ | refine aw_block ?_ | refine aw_scope ?_ | refine And.intro ?_ ?_)) <;> (try (simp (disch := first | exact dq | fail) only [go_sem, hc, decide_false])))
    | (with_reducible (first | refine wantK_split (fun h => ?_) (fun h => ?_) | refine condK_split (fun h => ?_) (fun h => ?_) | refine pickV_split (fun h => ?_) (fun h => ?_)) <;> (try (simp (disch := first | exact dq | fail) only [go_sem] at h)) <;> (try (simp (disch := first | exact dq | fail) only [go_sem, h, hc, decide_false])))))
    all_goals (try omega)
    rw [idxP_none (fun k hkl => hk k (by omega))]
theorem ContainsFunc0_spec (f : Nat) (p : Int → Bool) (hp : ∀ n, MCalls Try.prog f [.iv (.int .i64 n)] [] (.iv (.bool (p n))) []) (l : List Int) (hl : l.length ≤ 1000000) :
    PCalls Try.prog 54 [inl l, .fnc f] (.bool (l.any p)) := by
  have h := IndexFunc0_spec f p hp l hl
  rw [← idxP_ge]
  refine PCalls.of_aw Try.func54 rfl (by unfold Callable; kernel_rfl) (by kernel_rfl) (by simp [Try.ntmps54]) ?_; rw [Try.ntmps54, Try.results54]; (simp (disch := first | exact dq | fail) only [go_sem])
  (repeat' (first
    | ((first | with_reducible (first | refine aw_seq ?_ | refine aw_region (aops_run ?_)) | (with_reducible refine aw_regionD (fun _ => .p) mixed ?_ (dops_run ?_); (· kernel_rfl)) | (with_reducible refine aw_regionD (fun _ => .r) mixed ?_ (dops_run ?_); (· kernel_rfl)) | with_reducible (first | refine aw_condK ?_ | refine aw_skip ?_ | refine aw_ret ?_ | refine aw_exit ?_ | refine aw_label ?_ | refine aw_block ?_ | refine aw_scope ?_ | refine And.intro ?_ ?_)) <;> (try (simp (disch := first | exact dq | fail) only [go_sem])))
    | (with_reducible (first | refine wantK_split (fun h => ?_) (fun h => ?_) | refine condK_split (fun h => ?_) (fun h => ?_) | refine pickV_split (fun h => ?_) (fun h => ?_)) <;> (try (simp (disch := first | exact dq | fail) only [go_sem] at h)) <;> (try (simp (disch := first | exact dq | fail) only [go_sem, h])))))
  ((first | with_reducible apply left_callf | with_reducible apply leftD_callf | with_reducible apply leftF_callf); (· with_reducible rfl); (· (simp (disch := first | exact dq | fail) only [go_sem]) <;> rfl); (· exact h); try (simp (disch := first | exact dq | fail) only [go_sem]))
  (repeat' (first
    | ((first | with_reducible (first | refine aw_seq ?_ | refine aw_region (aops_run ?_)) | (with_reducible refine aw_regionD (fun _ => .p) mixed ?_ (dops_run ?_); (· kernel_rfl)) | (with_reducible refine aw_regionD (fun _ => .r) mixed ?_ (dops_run ?_); (· kernel_rfl)) | with_reducible (first | refine aw_condK ?_ | refine aw_skip ?_ | refine aw_ret ?_ | refine aw_exit ?_ | refine aw_label ?_ | refine aw_block ?_ | refine aw_scope ?_ | refine And.intro ?_ ?_)) <;> (try (simp (disch := first | exact dq | fail) only [go_sem])))
    | (with_reducible (first | refine wantK_split (fun h => ?_) (fun h => ?_) | refine condK_split (fun h => ?_) (fun h => ?_) | refine pickV_split (fun h => ?_) (fun h => ?_)) <;> (try (simp (disch := first | exact dq | fail) only [go_sem] at h)) <;> (try (simp (disch := first | exact dq | fail) only [go_sem, h])))))
theorem ahead2_spec (l : List Int) (i : Nat) (hi : i ≤ l.length) (hl : l.length ≤ 1000000) : MCalls Try.prog 56 [.iv (.int .i64 i), .mp 0 0] [.var 22 [.iv (inl l)]] (.iv (.int .i64 (ahd l i))) [.var 22 [.iv (inl l)]] := by
  unfold ahd
  by_cases h : i = 0
  · subst h
    rw [if_pos rfl]
    refine MCalls.of_aw Try.func56 rfl (by unfold Callable; kernel_rfl) (by kernel_rfl) (by simp [Try.ntmps56]) (by (simp (disch := first | exact dq | fail) only [go_sem])) ?_; rw [Try.ntmps56, Try.results56]; (simp (disch := first | exact dq | fail) only [go_sem])
    (repeat' (first
    | ((first | with_reducible (first | refine aw_seq ?_ | refine aw_region (aops_run ?_)) | (with_reducible refine aw_regionD (fun _ => .p) mixed ?_ (dops_run ?_); (· kernel_rfl)) | (with_reducible refine aw_regionD (fun _ => .r) mixed ?_ (dops_run ?_); (· kernel_rfl)) | with_reducible (first | refine aw_condK ?_ | refine aw_skip ?_ | refine aw_ret ?_ | refine aw_exit ?_ | refine aw_label ?_ | refine aw_block ?_ | refine aw_scope ?_ | refine And.intro ?_ ?_)) <;> (try (simp (disch := first | exact dq | fail) only [go_sem])))
    | (with_reducible (first | refine wantK_split (fun h => ?_) (fun h => ?_) | refine condK_split (fun h => ?_) (fun h => ?_) | refine pickV_split (fun h => ?_) (fun h => ?_)) <;> (try (simp (disch := first | exact dq | fail) only [go_sem] at h)) <;> (try (simp (disch := first | exact dq | fail) only [go_sem, h])))))
    all_goals (try omega)
    all_goals (refine fin_k [0] ?_ ; (simp (disch := first | exact dq | fail) only [go_sem]))
  · rw [if_neg h]
    have hc : ¬ ((i : Int) = 0) := by omega
    have hi1 : (i : Int) - 1 = ((i - 1 : Nat) : Int) := by omega
    refine MCalls.of_aw Try.func56 rfl (by unfold Callable; kernel_rfl) (by kernel_rfl) (by simp [Try.ntmps56]) (by (simp (disch := first | exact dq | fail) only [go_sem])) ?_; rw [Try.ntmps56, Try.results56]; (simp (disch := first | exact dq | fail) only [go_sem])
    (repeat' (first
    | ((first | with_reducible (first | refine aw_seq ?_ | refine aw_region (aops_run ?_)) | (with_reducible refine aw_regionD (fun _ => .p) mixed ?_ (dops_run ?_); (· kernel_rfl)) | (with_reducible refine aw_regionD (fun _ => .r) mixed ?_ (dops_run ?_); (· kernel_rfl)) | with_reducible (first | refine aw_condK ?_ | refine aw_skip ?_ | refine aw_ret ?_ | refine aw_exit ?_ | refine aw_label ?_ | refine aw_block ?_ | refine aw_scope ?_ | refine And.intro ?_ ?_)) <;> (try (simp (disch := first | exact dq | fail) only [go_sem, hc, hi1, decide_false])))
    | (with_reducible (first | refine wantK_split (fun h => ?_) (fun h => ?_) | refine condK_split (fun h => ?_) (fun h => ?_) | refine pickV_split (fun h => ?_) (fun h => ?_)) <;> (try (simp (disch := first | exact dq | fail) only [go_sem] at h)) <;> (try (simp (disch := first | exact dq | fail) only [go_sem, h, hc, hi1, decide_false])))))
    all_goals (try omega)
    all_goals (refine fin_k [0] ?_ ; (simp (disch := first | exact dq | fail) only [go_sem]))
theorem turn_take {l : List Int} {i : Nat} (h : i < l.length) : (turnL l).take (i + 2) = (turnL l).take (i + 1) ++ [ahd l ((saL l).getD i 0).toNat] := by
  rw [take_snoc _ (by rw [turnL_len]; omega), turn_at (by omega)]
  unfold rwN
  rw [if_neg (by omega), Nat.add_sub_cancel]
theorem turn_one (l : List Int) : (turnL l).take 1 = [ahd l l.length] := by
  rw [take_snoc (j := 0) _ (by rw [turnL_len]; omega), turn_at (Nat.zero_le _)]
  rfl
theorem any_neg {l : List Int} (h : ∀ x ∈ l, 0 ≤ x) : l.any (fun n => decide (n < 0)) = false := by
  rw [List.any_eq_false]
  intro x hx
  have := h x hx
  simp; omega
set_option maxHeartbeats 1000000 in
theorem Turn_ok (l : List Int) (hl : l.length ≤ 100000) (h : ∀ x ∈ l, 0 ≤ x) : PCalls Try.prog 31 [inl l] (.tup [inl (turnL l), .int .i64 0]) := by
  have hC := ContainsFunc0_spec 55 _ neg1_spec l (by omega)
  rw [any_neg h] at hC
  have hA := Array_any l hl
  have hH := fun i hi => ahead2_spec l i hi (by omega)
  have hsl := saL_len l
  have htl := turnL_len l
  have hone := turn_one l
  have htk := fun i => @turn_take l i
  have hsr := fun i => @saL_rng l i
  have hlast : (turnL l).take (l.length + 1) = turnL l := List.take_of_length_le (by omega)
  have hHl := hH l.length (Nat.le_refl _)
  generalize turnL l = t at *
  generalize saL l = s at *
  refine PCalls.of_aw Try.func31 rfl (by unfold Callable; kernel_rfl) (by kernel_rfl) (by simp [Try.ntmps31]) ?_; rw [Try.ntmps31, Try.results31]; (simp (maxSteps := 1000000) (disch := first | exact dq | fail) only [go_sem])
  (repeat' (first
    | ((first | with_reducible (first | refine aw_seq ?_ | refine aw_region (aops_run ?_)) | (with_reducible refine aw_regionD (fun _ => .p) mixed ?_ (dops_run ?_); (· kernel_rfl)) | (with_reducible refine aw_regionD (fun _ => .r) mixed ?_ (dops_run ?_); (· kernel_rfl)) | with_reducible (first | refine aw_condK ?_ | refine aw_skip ?_ | refine aw_ret ?_ | refine aw_exit ?_ | refine aw_label ?_ | refine aw_block ?_ | refine aw_scope ?_ | refine And.intro ?_ ?_)) <;> (try (simp (maxSteps := 1000000) (disch := first | exact dq | fail) only [go_sem])))
    | (with_reducible (first | refine wantK_split (fun h => ?_) (fun h => ?_) | refine condK_split (fun h => ?_) (fun h => ?_) | refine pickV_split (fun h => ?_) (fun h => ?_)) <;> (try (simp (maxSteps := 1000000) (disch := first | exact dq | fail) only [go_sem] at h)) <;> (try (simp (maxSteps := 1000000) (disch := first | exact dq | fail) only [go_sem, h])))))
  ((first | with_reducible apply left_callf | with_reducible apply leftD_callf | with_reducible apply leftF_callf); (· with_reducible rfl); (· (simp (maxSteps := 1000000) (disch := first | exact dq | fail) only [go_sem]) <;> rfl); (· exact hC); try (simp (maxSteps := 1000000) (disch := first | exact dq | fail) only [go_sem]))
  (repeat' (first
    | ((first | with_reducible (first | refine aw_seq ?_ | refine aw_region (aops_run ?_)) | (with_reducible refine aw_regionD (fun _ => .p) mixed ?_ (dops_run ?_); (· kernel_rfl)) | (with_reducible refine aw_regionD (fun _ => .r) mixed ?_ (dops_run ?_); (· kernel_rfl)) | with_reducible (first | refine aw_condK ?_ | refine aw_skip ?_ | refine aw_ret ?_ | refine aw_exit ?_ | refine aw_label ?_ | refine aw_block ?_ | refine aw_scope ?_ | refine And.intro ?_ ?_)) <;> (try (simp (maxSteps := 1000000) (disch := first | exact dq | fail) only [go_sem])))
    | (with_reducible (first | refine wantK_split (fun h => ?_) (fun h => ?_) | refine condK_split (fun h => ?_) (fun h => ?_) | refine pickV_split (fun h => ?_) (fun h => ?_)) <;> (try (simp (maxSteps := 1000000) (disch := first | exact dq | fail) only [go_sem] at h)) <;> (try (simp (maxSteps := 1000000) (disch := first | exact dq | fail) only [go_sem, h])))))
  ((first | with_reducible refine left_callMs [0] (hHl) ?_ ?_ | with_reducible refine leftD_callMs [0] rfl (hHl) ?_ ?_ | with_reducible refine leftD_callRs [0] (by decide) (hHl) ?_ ?_); (· (simp (maxSteps := 1000000) (disch := first | exact dq | fail) only [go_sem])); try (simp (maxSteps := 1000000) (disch := first | exact dq | fail) only [go_sem]))
  (repeat' (first
    | ((first | with_reducible (first | refine aw_seq ?_ | refine aw_region (aops_run ?_)) | (with_reducible refine aw_regionD (fun _ => .p) mixed ?_ (dops_run ?_); (· kernel_rfl)) | (with_reducible refine aw_regionD (fun _ => .r) mixed ?_ (dops_run ?_); (· kernel_rfl)) | with_reducible (first | refine aw_condK ?_ | refine aw_skip ?_ | refine aw_ret ?_ | refine aw_exit ?_ | refine aw_label ?_ | refine aw_block ?_ | refine aw_scope ?_ | refine And.intro ?_ ?_)) <;> (try (simp (maxSteps := 1000000) (disch := first | exact dq | fail) only [go_sem])))
    | (with_reducible (first | refine wantK_split (fun h => ?_) (fun h => ?_) | refine condK_split (fun h => ?_) (fun h => ?_) | refine pickV_split (fun h => ?_) (fun h => ?_)) <;> (try (simp (maxSteps := 1000000) (disch := first | exact dq | fail) only [go_sem] at h)) <;> (try (simp (maxSteps := 1000000) (disch := first | exact dq | fail) only [go_sem, h])))))
  ((first | with_reducible apply left_callf | with_reducible apply leftD_callf | with_reducible apply leftF_callf); (· with_reducible rfl); (· (simp (maxSteps := 1000000) (disch := first | exact dq | fail) only [go_sem]) <;> rfl); (· exact hA); try (simp (maxSteps := 1000000) (disch := first | exact dq | fail) only [go_sem]))
  (repeat' (first
    | ((first | with_reducible (first | refine aw_seq ?_ | refine aw_region (aops_run ?_)) | (with_reducible refine aw_regionD (fun _ => .p) mixed ?_ (dops_run ?_); (· kernel_rfl)) | (with_reducible refine aw_regionD (fun _ => .r) mixed ?_ (dops_run ?_); (· kernel_rfl)) | with_reducible (first | refine aw_condK ?_ | refine aw_skip ?_ | refine aw_ret ?_ | refine aw_exit ?_ | refine aw_label ?_ | refine aw_block ?_ | refine aw_scope ?_ | refine And.intro ?_ ?_)) <;> (try (simp (maxSteps := 1000000) (disch := first | exact dq | fail) only [go_sem])))
    | (with_reducible (first | refine wantK_split (fun h => ?_) (fun h => ?_) | refine condK_split (fun h => ?_) (fun h => ?_) | refine pickV_split (fun h => ?_) (fun h => ?_)) <;> (try (simp (maxSteps := 1000000) (disch := first | exact dq | fail) only [go_sem] at h)) <;> (try (simp (maxSteps := 1000000) (disch := first | exact dq | fail) only [go_sem, h])))))
  refine aw_loop (α := Nat) (fun i => ⟨31, sl [(1, .mp 0 0), (4, .fn 56 [.mp 0 0]), (5, .msl 1 0 (i + 1) (i + 1)), (17, .iv (inl s)), (18, .iv (.int .i64 l.length)), (19, .iv (.int .i64 i))], [.var 22 [.iv (inl l)], .row true 3 1 ((t.take (i + 1)).map (IV.int .i64))], 0⟩)
    (fun i => i ≤ l.length) (fun i => l.length - i) 0 (wk_by [0, 2] ?_) (by omega) ?_
  · (simp (maxSteps := 1000000) (disch := first | exact dq | fail) only [go_sem, hone, hsl])
  rintro i hi
  have htl2 : (t.take (i + 1)).length = i + 1 := by rw [List.length_take]; omega
  by_cases hlt : i < l.length
  · have hc : (i : Int) < l.length := by omega
    obtain ⟨a, ha⟩ : ∃ a : Nat, s.getD i 0 = (a : Int) := ⟨(s.getD i 0).toNat, by have := hsr i hlt; omega⟩
    have hal := (hsr i hlt).2
    have hts := htk i hlt
    rw [ha] at hal
    rw [ha, Int.toNat_natCast] at hts
    have hga : s[i]? = some (a : Int) := by rw [← ha]; simp [List.getD, List.getElem?_eq_getElem (show i < s.length by omega)]
    have hHa := hH a (by omega)
    (repeat' (first
    | ((first | with_reducible (first | refine aw_seq ?_ | refine aw_region (aops_run ?_)) | (with_reducible refine aw_regionD (fun _ => .p) mixed ?_ (dops_run ?_); (· kernel_rfl)) | (with_reducible refine aw_regionD (fun _ => .r) mixed ?_ (dops_run ?_); (· kernel_rfl)) | with_reducible (first | refine aw_condK ?_ | refine aw_skip ?_ | refine aw_ret ?_ | refine aw_exit ?_ | refine aw_label ?_ | refine aw_block ?_ | refine aw_scope ?_ | refine And.intro ?_ ?_)) <;> (try (simp (maxSteps := 1000000) (disch := first | exact dq | fail) only [go_sem, hc, hga, decide_true])))
    | (with_reducible (first | refine wantK_split (fun h => ?_) (fun h => ?_) | refine condK_split (fun h => ?_) (fun h => ?_) | refine pickV_split (fun h => ?_) (fun h => ?_)) <;> (try (simp (maxSteps := 1000000) (disch := first | exact dq | fail) only [go_sem] at h)) <;> (try (simp (maxSteps := 1000000) (disch := first | exact dq | fail) only [go_sem, h, hc, hga, decide_true])))))
    all_goals (try omega)
    ((first | with_reducible refine left_callMs [0] (hHa) ?_ ?_ | with_reducible refine leftD_callMs [0] rfl (hHa) ?_ ?_ | with_reducible refine leftD_callRs [0] (by decide) (hHa) ?_ ?_); (· (simp (maxSteps := 1000000) (disch := first | exact dq | fail) only [go_sem])); try (simp (maxSteps := 1000000) (disch := first | exact dq | fail) only [go_sem]))
    (repeat' (first
    | ((first | with_reducible (first | refine aw_seq ?_ | refine aw_region (aops_run ?_)) | (with_reducible refine aw_regionD (fun _ => .p) mixed ?_ (dops_run ?_); (· kernel_rfl)) | (with_reducible refine aw_regionD (fun _ => .r) mixed ?_ (dops_run ?_); (· kernel_rfl)) | with_reducible (first | refine aw_condK ?_ | refine aw_skip ?_ | refine aw_ret ?_ | refine aw_exit ?_ | refine aw_label ?_ | refine aw_block ?_ | refine aw_scope ?_ | refine And.intro ?_ ?_)) <;> (try (simp (maxSteps := 1000000) (disch := first | exact dq | fail) only [go_sem, htl2])))
    | (with_reducible (first | refine wantK_split (fun h => ?_) (fun h => ?_) | refine condK_split (fun h => ?_) (fun h => ?_) | refine pickV_split (fun h => ?_) (fun h => ?_)) <;> (try (simp (maxSteps := 1000000) (disch := first | exact dq | fail) only [go_sem] at h)) <;> (try (simp (maxSteps := 1000000) (disch := first | exact dq | fail) only [go_sem, h, htl2])))))
    all_goals (try omega)
    refine ⟨i + 1, by omega, wk_by [0, 1] ?_, by omega⟩
    (simp (maxSteps := 1000000) (disch := first | exact dq | fail) only [go_sem, hts, List.map_append])
  · obtain rfl : i = l.length := by omega
    have hc : ¬ ((l.length : Int) < l.length) := by omega
    rw [hlast]
    (repeat' (first
    | ((first | with_reducible (first | refine aw_seq ?_ | refine aw_region (aops_run ?_)) | (with_reducible refine aw_regionD (fun _ => .p) mixed ?_ (dops_run ?_); (· kernel_rfl)) | (with_reducible refine aw_regionD (fun _ => .r) mixed ?_ (dops_run ?_); (· kernel_rfl)) | with_reducible (first | refine aw_condK ?_ | refine aw_skip ?_ | refine aw_ret ?_ | refine aw_exit ?_ | refine aw_label ?_ | refine aw_block ?_ | refine aw_scope ?_ | refine And.intro ?_ ?_)) <;> (try (simp (maxSteps := 1000000) (disch := first | exact dq | fail) only [go_sem, hc, htl, decide_false])))
    | (with_reducible (first | refine wantK_split (fun h => ?_) (fun h => ?_) | refine condK_split (fun h => ?_) (fun h => ?_) | refine pickV_split (fun h => ?_) (fun h => ?_)) <;> (try (simp (maxSteps := 1000000) (disch := first | exact dq | fail) only [go_sem] at h)) <;> (try (simp (maxSteps := 1000000) (disch := first | exact dq | fail) only [go_sem, h, hc, htl, decide_false])))))
    all_goals (try omega)
    all_goals (try (rw [List.take_of_length_le (by rw [List.length_map]; omega)]))
theorem Turn_no (l : List Int) (hl : l.length ≤ 100000) (h : ¬ ∀ x ∈ l, 0 ≤ x) : PCalls Try.prog 31 [inl l] (.tup [inl [], .int .i64 1]) := by
  have hC := ContainsFunc0_spec 55 _ neg1_spec l (by omega)
  have : l.any (fun n => decide (n < 0)) = true := by
    rw [List.any_eq_true]
    have ⟨x, hx⟩ := Classical.not_forall.1 h
    have ⟨h1, h2⟩ := Classical.not_imp.1 hx
    exact ⟨x, h1, by simp; omega⟩
  rw [this] at hC
  refine PCalls.of_aw Try.func31 rfl (by unfold Callable; kernel_rfl) (by kernel_rfl) (by simp [Try.ntmps31]) ?_; rw [Try.ntmps31, Try.results31]; (simp (disch := first | exact dq | fail) only [go_sem])
  (repeat' (first
    | ((first | with_reducible (first | refine aw_seq ?_ | refine aw_region (aops_run ?_)) | (with_reducible refine aw_regionD (fun _ => .p) mixed ?_ (dops_run ?_); (· kernel_rfl)) | (with_reducible refine aw_regionD (fun _ => .r) mixed ?_ (dops_run ?_); (· kernel_rfl)) | with_reducible (first | refine aw_condK ?_ | refine aw_skip ?_ | refine aw_ret ?_ | refine aw_exit ?_ | refine aw_label ?_ | refine aw_block ?_ | refine aw_scope ?_ | refine And.intro ?_ ?_)) <;> (try (simp (disch := first | exact dq | fail) only [go_sem])))
    | (with_reducible (first | refine wantK_split (fun h => ?_) (fun h => ?_) | refine condK_split (fun h => ?_) (fun h => ?_) | refine pickV_split (fun h => ?_) (fun h => ?_)) <;> (try (simp (disch := first | exact dq | fail) only [go_sem] at h)) <;> (try (simp (disch := first | exact dq | fail) only [go_sem, h])))))
  ((first | with_reducible apply left_callf | with_reducible apply leftD_callf | with_reducible apply leftF_callf); (· with_reducible rfl); (· (simp (disch := first | exact dq | fail) only [go_sem]) <;> rfl); (· exact hC); try (simp (disch := first | exact dq | fail) only [go_sem]))
  (repeat' (first
    | ((first | with_reducible (first | refine aw_seq ?_ | refine aw_region (aops_run ?_)) | (with_reducible refine aw_regionD (fun _ => .p) mixed ?_ (dops_run ?_); (· kernel_rfl)) | (with_reducible refine aw_regionD (fun _ => .r) mixed ?_ (dops_run ?_); (· kernel_rfl)) | with_reducible (first | refine aw_condK ?_ | refine aw_skip ?_ | refine aw_ret ?_ | refine aw_exit ?_ | refine aw_label ?_ | refine aw_block ?_ | refine aw_scope ?_ | refine And.intro ?_ ?_)) <;> (try (simp (disch := first | exact dq | fail) only [go_sem])))
    | (with_reducible (first | refine wantK_split (fun h => ?_) (fun h => ?_) | refine condK_split (fun h => ?_) (fun h => ?_) | refine pickV_split (fun h => ?_) (fun h => ?_)) <;> (try (simp (disch := first | exact dq | fail) only [go_sem] at h)) <;> (try (simp (disch := first | exact dq | fail) only [go_sem, h])))))
set_option maxHeartbeats 1000000 in
theorem RefTurn_spec (l : List Int) (hl : l.length ≤ 100000) : PCalls Try.prog 33 [inl l] (inl (turnL l)) := by
  have hA := RefArray7_spec l (by omega)
  have hsl := saL_len l
  have htl := turnL_len l
  have hone := turn_one l
  have htk := fun i => @turn_take l i
  have hsr := fun i => @saL_rng l i
  have hlast : (turnL l).take (l.length + 1) = turnL l := List.take_of_length_le (by omega)
  generalize turnL l = t at *
  generalize saL l = s at *
  refine PCalls.of_aw Try.func33 rfl (by unfold Callable; kernel_rfl) (by kernel_rfl) (by simp [Try.ntmps33]) ?_; rw [Try.ntmps33, Try.results33]; (simp (maxSteps := 1000000) (disch := first | exact dq | fail) only [go_sem])
  ((with_reducible refine aw_seq ?_); (with_reducible refine aw_region (aops_run ?_)); try (simp (maxSteps := 1000000) (disch := first | exact dq | fail) only [go_sem]))
  ((with_reducible refine aw_seq ?_); (with_reducible refine aw_region (aops_run ?_)); try (simp (maxSteps := 1000000) (disch := first | exact dq | fail) only [go_sem]))
  refine aw_cut ⟨45, sl [(0, .iv (inl l)), (3, .msl 0 0 1 1)], [.row true 3 1 ((t.take 1).map (IV.int .i64))], 0⟩ ?_ ?_
  · rw [hone]
    unfold ahd
    by_cases h0 : l.length = 0
    · have hc : ¬ ((l.length : Int) > 0) := by omega
      rw [if_pos h0]
      (repeat' (first
    | ((first | with_reducible (first | refine aw_seq ?_ | refine aw_region (aops_run ?_)) | (with_reducible refine aw_regionD (fun _ => .p) mixed ?_ (dops_run ?_); (· kernel_rfl)) | (with_reducible refine aw_regionD (fun _ => .r) mixed ?_ (dops_run ?_); (· kernel_rfl)) | with_reducible (first | refine aw_condK ?_ | refine aw_skip ?_ | refine aw_ret ?_ | refine aw_exit ?_ | refine aw_label ?_ | refine aw_block ?_ | refine aw_scope ?_ | refine And.intro ?_ ?_)) <;> (try (simp (maxSteps := 1000000) (disch := first | exact dq | fail) only [go_sem, hc, decide_false])))
    | (with_reducible (first | refine wantK_split (fun h => ?_) (fun h => ?_) | refine condK_split (fun h => ?_) (fun h => ?_) | refine pickV_split (fun h => ?_) (fun h => ?_)) <;> (try (simp (maxSteps := 1000000) (disch := first | exact dq | fail) only [go_sem] at h)) <;> (try (simp (maxSteps := 1000000) (disch := first | exact dq | fail) only [go_sem, h, hc, decide_false])))))
      all_goals (try omega)
      refine wk_by [1] ?_
      (simp (maxSteps := 1000000) (disch := first | exact dq | fail) only [go_sem])
    · have hc : (l.length : Int) > 0 := by omega
      have hi1 : (l.length : Int) - 1 = ((l.length - 1 : Nat) : Int) := by omega
      rw [if_neg h0]
      (repeat' (first
    | ((first | with_reducible (first | refine aw_seq ?_ | refine aw_region (aops_run ?_)) | (with_reducible refine aw_regionD (fun _ => .p) mixed ?_ (dops_run ?_); (· kernel_rfl)) | (with_reducible refine aw_regionD (fun _ => .r) mixed ?_ (dops_run ?_); (· kernel_rfl)) | with_reducible (first | refine aw_condK ?_ | refine aw_skip ?_ | refine aw_ret ?_ | refine aw_exit ?_ | refine aw_label ?_ | refine aw_block ?_ | refine aw_scope ?_ | refine And.intro ?_ ?_)) <;> (try (simp (maxSteps := 1000000) (disch := first | exact dq | fail) only [go_sem, hc, hi1, decide_true])))
    | (with_reducible (first | refine wantK_split (fun h => ?_) (fun h => ?_) | refine condK_split (fun h => ?_) (fun h => ?_) | refine pickV_split (fun h => ?_) (fun h => ?_)) <;> (try (simp (maxSteps := 1000000) (disch := first | exact dq | fail) only [go_sem] at h)) <;> (try (simp (maxSteps := 1000000) (disch := first | exact dq | fail) only [go_sem, h, hc, hi1, decide_true])))))
      all_goals (try omega)
      refine wk_by [2] ?_
      (simp (maxSteps := 1000000) (disch := first | exact dq | fail) only [go_sem])
  (repeat' (first
    | ((first | with_reducible (first | refine aw_seq ?_ | refine aw_region (aops_run ?_)) | (with_reducible refine aw_regionD (fun _ => .p) mixed ?_ (dops_run ?_); (· kernel_rfl)) | (with_reducible refine aw_regionD (fun _ => .r) mixed ?_ (dops_run ?_); (· kernel_rfl)) | with_reducible (first | refine aw_condK ?_ | refine aw_skip ?_ | refine aw_ret ?_ | refine aw_exit ?_ | refine aw_label ?_ | refine aw_block ?_ | refine aw_scope ?_ | refine And.intro ?_ ?_)) <;> (try (simp (maxSteps := 1000000) (disch := first | exact dq | fail) only [go_sem])))
    | (with_reducible (first | refine wantK_split (fun h => ?_) (fun h => ?_) | refine condK_split (fun h => ?_) (fun h => ?_) | refine pickV_split (fun h => ?_) (fun h => ?_)) <;> (try (simp (maxSteps := 1000000) (disch := first | exact dq | fail) only [go_sem] at h)) <;> (try (simp (maxSteps := 1000000) (disch := first | exact dq | fail) only [go_sem, h])))))
  ((first | with_reducible apply left_callf | with_reducible apply leftD_callf | with_reducible apply leftF_callf); (· with_reducible rfl); (· (simp (maxSteps := 1000000) (disch := first | exact dq | fail) only [go_sem]) <;> rfl); (· exact hA); try (simp (maxSteps := 1000000) (disch := first | exact dq | fail) only [go_sem]))
  (repeat' (first
    | ((first | with_reducible (first | refine aw_seq ?_ | refine aw_region (aops_run ?_)) | (with_reducible refine aw_regionD (fun _ => .p) mixed ?_ (dops_run ?_); (· kernel_rfl)) | (with_reducible refine aw_regionD (fun _ => .r) mixed ?_ (dops_run ?_); (· kernel_rfl)) | with_reducible (first | refine aw_condK ?_ | refine aw_skip ?_ | refine aw_ret ?_ | refine aw_exit ?_ | refine aw_label ?_ | refine aw_block ?_ | refine aw_scope ?_ | refine And.intro ?_ ?_)) <;> (try (simp (maxSteps := 1000000) (disch := first | exact dq | fail) only [go_sem])))
    | (with_reducible (first | refine wantK_split (fun h => ?_) (fun h => ?_) | refine condK_split (fun h => ?_) (fun h => ?_) | refine pickV_split (fun h => ?_) (fun h => ?_)) <;> (try (simp (maxSteps := 1000000) (disch := first | exact dq | fail) only [go_sem] at h)) <;> (try (simp (maxSteps := 1000000) (disch := first | exact dq | fail) only [go_sem, h])))))
  refine aw_loop (α := Nat) (fun i => ⟨45, sl [(0, .iv (inl l)), (3, .msl 0 0 (i + 1) (i + 1)), (4, .iv (inl s)), (5, .iv (.int .i64 i))], [.row true 3 1 ((t.take (i + 1)).map (IV.int .i64))], 0⟩)
    (fun i => i ≤ l.length) (fun i => l.length - i) 0 (wk_by [0] ?_) (by omega) ?_
  · (simp (maxSteps := 1000000) (disch := first | exact dq | fail) only [go_sem, hone])
  rintro i hi
  have htl2 : (t.take (i + 1)).length = i + 1 := by rw [List.length_take]; omega
  by_cases hlt : i < l.length
  · have hc : (i : Int) < s.length := by omega
    obtain ⟨a, ha⟩ : ∃ a : Nat, s.getD i 0 = (a : Int) := ⟨(s.getD i 0).toNat, by have := hsr i hlt; omega⟩
    have hal := (hsr i hlt).2
    have hts := htk i hlt
    rw [ha] at hal
    rw [ha, Int.toNat_natCast] at hts
    have hga : s[i]? = some (a : Int) := by rw [← ha]; simp [List.getD, List.getElem?_eq_getElem (show i < s.length by omega)]
    unfold ahd at hts
    by_cases h0 : a = 0
    · subst h0
      rw [if_pos rfl] at hts
      (repeat' (first
    | ((first | with_reducible (first | refine aw_seq ?_ | refine aw_region (aops_run ?_)) | (with_reducible refine aw_regionD (fun _ => .p) mixed ?_ (dops_run ?_); (· kernel_rfl)) | (with_reducible refine aw_regionD (fun _ => .r) mixed ?_ (dops_run ?_); (· kernel_rfl)) | with_reducible (first | refine aw_condK ?_ | refine aw_skip ?_ | refine aw_ret ?_ | refine aw_exit ?_ | refine aw_label ?_ | refine aw_block ?_ | refine aw_scope ?_ | refine And.intro ?_ ?_)) <;> (try (simp (maxSteps := 1000000) (disch := first | exact dq | fail) only [go_sem, hc, hga, decide_true, htl2])))
    | (with_reducible (first | refine wantK_split (fun h => ?_) (fun h => ?_) | refine condK_split (fun h => ?_) (fun h => ?_) | refine pickV_split (fun h => ?_) (fun h => ?_)) <;> (try (simp (maxSteps := 1000000) (disch := first | exact dq | fail) only [go_sem] at h)) <;> (try (simp (maxSteps := 1000000) (disch := first | exact dq | fail) only [go_sem, h, hc, hga, decide_true, htl2])))))
      all_goals (try omega)
      refine ⟨i + 1, by omega, wk_by [0] ?_, by omega⟩
      (simp (maxSteps := 1000000) (disch := first | exact dq | fail) only [go_sem, hts, List.map_append])
    · rw [if_neg h0] at hts
      have hc0 : ¬ ((a : Int) = 0) := by omega
      have ha1 : (a : Int) - 1 = ((a - 1 : Nat) : Int) := by omega
      (repeat' (first
    | ((first | with_reducible (first | refine aw_seq ?_ | refine aw_region (aops_run ?_)) | (with_reducible refine aw_regionD (fun _ => .p) mixed ?_ (dops_run ?_); (· kernel_rfl)) | (with_reducible refine aw_regionD (fun _ => .r) mixed ?_ (dops_run ?_); (· kernel_rfl)) | with_reducible (first | refine aw_condK ?_ | refine aw_skip ?_ | refine aw_ret ?_ | refine aw_exit ?_ | refine aw_label ?_ | refine aw_block ?_ | refine aw_scope ?_ | refine And.intro ?_ ?_)) <;> (try (simp (maxSteps := 1000000) (disch := first | exact dq | fail) only [go_sem, hc, hga, hc0, ha1, decide_true, decide_false, htl2])))
    | (with_reducible (first | refine wantK_split (fun h => ?_) (fun h => ?_) | refine condK_split (fun h => ?_) (fun h => ?_) | refine pickV_split (fun h => ?_) (fun h => ?_)) <;> (try (simp (maxSteps := 1000000) (disch := first | exact dq | fail) only [go_sem] at h)) <;> (try (simp (maxSteps := 1000000) (disch := first | exact dq | fail) only [go_sem, h, hc, hga, hc0, ha1, decide_true, decide_false, htl2])))))
      all_goals (try omega)
      refine ⟨i + 1, by omega, wk_by [0] ?_, by omega⟩
      (simp (maxSteps := 1000000) (disch := first | exact dq | fail) only [go_sem, hts, List.map_append])
  · obtain rfl : i = l.length := by omega
    have hc : ¬ ((l.length : Int) < s.length) := by omega
    rw [hlast]
    (repeat' (first
    | ((first | with_reducible (first | refine aw_seq ?_ | refine aw_region (aops_run ?_)) | (with_reducible refine aw_regionD (fun _ => .p) mixed ?_ (dops_run ?_); (· kernel_rfl)) | (with_reducible refine aw_regionD (fun _ => .r) mixed ?_ (dops_run ?_); (· kernel_rfl)) | with_reducible (first | refine aw_condK ?_ | refine aw_skip ?_ | refine aw_ret ?_ | refine aw_exit ?_ | refine aw_label ?_ | refine aw_block ?_ | refine aw_scope ?_ | refine And.intro ?_ ?_)) <;> (try (simp (maxSteps := 1000000) (disch := first | exact dq | fail) only [go_sem, hc, htl, decide_false])))
    | (with_reducible (first | refine wantK_split (fun h => ?_) (fun h => ?_) | refine condK_split (fun h => ?_) (fun h => ?_) | refine pickV_split (fun h => ?_) (fun h => ?_)) <;> (try (simp (maxSteps := 1000000) (disch := first | exact dq | fail) only [go_sem] at h)) <;> (try (simp (maxSteps := 1000000) (disch := first | exact dq | fail) only [go_sem, h, hc, htl, decide_false])))))
    all_goals (try omega)
    all_goals (try (rw [List.take_of_length_le (by rw [List.length_map]; omega)]))
theorem Index_spec (l : List Int) (v : Int) (hl : l.length ≤ 1000000) : PCalls Try.prog 58 [inl l, .int .i64 v] (.int .i64 (idxP (fun x => decide (v = x)) l)) := by
  refine PCalls.of_aw Try.func58 rfl (by unfold Callable; kernel_rfl) (by kernel_rfl) (by simp [Try.ntmps58]) ?_; rw [Try.ntmps58, Try.results58]; (simp (disch := first | exact dq | fail) only [go_sem])
  (repeat' (first
    | ((first | with_reducible (first | refine aw_seq ?_ | refine aw_region (aops_run ?_)) | (with_reducible refine aw_regionD (fun _ => .p) mixed ?_ (dops_run ?_); (· kernel_rfl)) | (with_reducible refine aw_regionD (fun _ => .r) mixed ?_ (dops_run ?_); (· kernel_rfl)) | with_reducible (first | refine aw_condK ?_ | refine aw_skip ?_ | refine aw_ret ?_ | refine aw_exit ?_ | refine aw_label ?_ | refine aw_block ?_ | refine aw_scope ?_ | refine And.intro ?_ ?_)) <;> (try (simp (disch := first | exact dq | fail) only [go_sem])))
    | (with_reducible (first | refine wantK_split (fun h => ?_) (fun h => ?_) | refine condK_split (fun h => ?_) (fun h => ?_) | refine pickV_split (fun h => ?_) (fun h => ?_)) <;> (try (simp (disch := first | exact dq | fail) only [go_sem] at h)) <;> (try (simp (disch := first | exact dq | fail) only [go_sem, h])))))
  refine aw_loop (α := Nat) (fun j => ⟨19, sl [(0, .iv (inl l)), (1, .iv (.int .i64 v)), (7, .iv (.int .i64 l.length)), (8, .iv (.int .i64 j))], [], 0⟩)
    (fun j => j ≤ l.length ∧ ∀ k, k < j → ¬ v = l.getD k 0) (fun j => l.length - j) 0 (wk_by [] ?_) ⟨by omega, by omega⟩ ?_
  · (simp (disch := first | exact dq | fail) only [go_sem])
  rintro j ⟨hj, hk0⟩
  have hk : ∀ k, k < j → (fun x => decide (v = x)) (l.getD k 0) = false := fun k h => decide_eq_false (hk0 k h)
  by_cases h : j < l.length
  · have hc : (j : Int) < l.length := by omega
    have ha := @idxP_at (fun x => decide (v = x)) l j h hk
    by_cases g : v = l.getD j 0
    · rw [ha (decide_eq_true g)]
      (repeat' (first
    | ((first | with_reducible (first | refine aw_seq ?_ | refine aw_region (aops_run ?_)) | (with_reducible refine aw_regionD (fun _ => .p) mixed ?_ (dops_run ?_); (· kernel_rfl)) | (with_reducible refine aw_regionD (fun _ => .r) mixed ?_ (dops_run ?_); (· kernel_rfl)) | with_reducible (first | refine aw_condK ?_ | refine aw_skip ?_ | refine aw_ret ?_ | refine aw_exit ?_ | refine aw_label ?_ | refine aw_block ?_ | refine aw_scope ?_ | refine And.intro ?_ ?_)) <;> (try (simp (disch := first | exact dq | fail) only [go_sem, hc, g, eq_self, decide_true])))
    | (with_reducible (first | refine wantK_split (fun h => ?_) (fun h => ?_) | refine condK_split (fun h => ?_) (fun h => ?_) | refine pickV_split (fun h => ?_) (fun h => ?_)) <;> (try (simp (disch := first | exact dq | fail) only [go_sem] at h)) <;> (try (simp (disch := first | exact dq | fail) only [go_sem, h, hc, g, eq_self, decide_true])))))
      all_goals (try omega)
    · (repeat' (first
    | ((first | with_reducible (first | refine aw_seq ?_ | refine aw_region (aops_run ?_)) | (with_reducible refine aw_regionD (fun _ => .p) mixed ?_ (dops_run ?_); (· kernel_rfl)) | (with_reducible refine aw_regionD (fun _ => .r) mixed ?_ (dops_run ?_); (· kernel_rfl)) | with_reducible (first | refine aw_condK ?_ | refine aw_skip ?_ | refine aw_ret ?_ | refine aw_exit ?_ | refine aw_label ?_ | refine aw_block ?_ | refine aw_scope ?_ | refine And.intro ?_ ?_)) <;> (try (simp (disch := first | exact dq | fail) only [go_sem, hc, g, decide_true, decide_false])))
    | (with_reducible (first | refine wantK_split (fun h => ?_) (fun h => ?_) | refine condK_split (fun h => ?_) (fun h => ?_) | refine pickV_split (fun h => ?_) (fun h => ?_)) <;> (try (simp (disch := first | exact dq | fail) only [go_sem] at h)) <;> (try (simp (disch := first | exact dq | fail) only [go_sem, h, hc, g, decide_true, decide_false])))))
      all_goals (try omega)
      refine ⟨j + 1, ⟨by omega, fun k hkj => ?_⟩, wk_by [] ?_, by omega⟩
      · by_cases e : k = j
        · subst e; exact g
        · exact hk0 k (by omega)
      · (simp (disch := first | exact dq | fail) only [go_sem])
  · have hc : ¬ ((j : Int) < l.length) := by omega
    rw [idxP_none (fun k hkl => hk k (by omega))]
    (repeat' (first
    | ((first | with_reducible (first | refine aw_seq ?_ | refine aw_region (aops_run ?_)) | (with_reducible refine aw_regionD (fun _ => .p) mixed ?_ (dops_run ?_); (· kernel_rfl)) | (with_reducible refine aw_regionD (fun _ => .r) mixed ?_ (dops_run ?_); (· kernel_rfl)) | with_reducible (first | refine aw_condK ?_ | refine aw_skip ?_ | refine aw_ret ?_ | refine aw_exit ?_ | refine aw_label ?_ | refine aw_block ?_ | refine aw_scope ?_ | refine And.intro ?_ ?_)) <;> (try (simp (disch := first | exact dq | fail) only [go_sem, hc, decide_false])))
    | (with_reducible (first | refine wantK_split (fun h => ?_) (fun h => ?_) | refine condK_split (fun h => ?_) (fun h => ?_) | refine pickV_split (fun h => ?_) (fun h => ?_)) <;> (try (simp (disch := first | exact dq | fail) only [go_sem] at h)) <;> (try (simp (disch := first | exact dq | fail) only [go_sem, h, hc, decide_false])))))
    all_goals (try omega)
theorem Contains_spec (l : List Int) (v : Int) (hl : l.length ≤ 1000000) : PCalls Try.prog 60 [inl l, .int .i64 v] (.bool (l.any (fun x => decide (v = x)))) := by
  have h := Index_spec l v hl
  rw [← idxP_ge]
  refine PCalls.of_aw Try.func60 rfl (by unfold Callable; kernel_rfl) (by kernel_rfl) (by simp [Try.ntmps60]) ?_; rw [Try.ntmps60, Try.results60]; (simp (disch := first | exact dq | fail) only [go_sem])
  (repeat' (first
    | ((first | with_reducible (first | refine aw_seq ?_ | refine aw_region (aops_run ?_)) | (with_reducible refine aw_regionD (fun _ => .p) mixed ?_ (dops_run ?_); (· kernel_rfl)) | (with_reducible refine aw_regionD (fun _ => .r) mixed ?_ (dops_run ?_); (· kernel_rfl)) | with_reducible (first | refine aw_condK ?_ | refine aw_skip ?_ | refine aw_ret ?_ | refine aw_exit ?_ | refine aw_label ?_ | refine aw_block ?_ | refine aw_scope ?_ | refine And.intro ?_ ?_)) <;> (try (simp (disch := first | exact dq | fail) only [go_sem])))
    | (with_reducible (first | refine wantK_split (fun h => ?_) (fun h => ?_) | refine condK_split (fun h => ?_) (fun h => ?_) | refine pickV_split (fun h => ?_) (fun h => ?_)) <;> (try (simp (disch := first | exact dq | fail) only [go_sem] at h)) <;> (try (simp (disch := first | exact dq | fail) only [go_sem, h])))))
  ((first | with_reducible apply left_callf | with_reducible apply leftD_callf | with_reducible apply leftF_callf); (· with_reducible rfl); (· (simp (disch := first | exact dq | fail) only [go_sem]) <;> rfl); (· exact h); try (simp (disch := first | exact dq | fail) only [go_sem]))
  (repeat' (first
    | ((first | with_reducible (first | refine aw_seq ?_ | refine aw_region (aops_run ?_)) | (with_reducible refine aw_regionD (fun _ => .p) mixed ?_ (dops_run ?_); (· kernel_rfl)) | (with_reducible refine aw_regionD (fun _ => .r) mixed ?_ (dops_run ?_); (· kernel_rfl)) | with_reducible (first | refine aw_condK ?_ | refine aw_skip ?_ | refine aw_ret ?_ | refine aw_exit ?_ | refine aw_label ?_ | refine aw_block ?_ | refine aw_scope ?_ | refine And.intro ?_ ?_)) <;> (try (simp (disch := first | exact dq | fail) only [go_sem])))
    | (with_reducible (first | refine wantK_split (fun h => ?_) (fun h => ?_) | refine condK_split (fun h => ?_) (fun h => ?_) | refine pickV_split (fun h => ?_) (fun h => ?_)) <;> (try (simp (disch := first | exact dq | fail) only [go_sem] at h)) <;> (try (simp (disch := first | exact dq | fail) only [go_sem, h])))))
def mnF (f : Nat → Int) : Nat → Int
  | 0 => f 0
  | i + 1 => min (mnF f i) (f (i + 1))
theorem mnF_at (f : Nat → Int) : ∀ i, ∃ j, j ≤ i ∧ mnF f i = f j
  | 0 => ⟨0, Nat.le_refl _, rfl⟩
  | i + 1 => by
    obtain ⟨j, hj, e⟩ := mnF_at f i
    rw [mnF]
    by_cases h : f (i + 1) ≤ mnF f i
    · exact ⟨i + 1, Nat.le_refl _, by omega⟩
    · exact ⟨j, by omega, by omega⟩
theorem mnF_le (f : Nat → Int) : ∀ i j, j ≤ i → mnF f i ≤ f j
  | 0, j, h => by
    have : j = 0 := by omega
    subst this; exact Int.le_refl _
  | i + 1, j, h => by
    rw [mnF]
    by_cases e : j = i + 1
    · subst e; omega
    · have := mnF_le f i j (by omega); omega
theorem Min_spec (l : List Int) (h0 : 0 < l.length) (hl : l.length ≤ 1000000) : PCalls Try.prog 59 [inl l] (.int .i64 (mnF (fun i => l.getD i 0) (l.length - 1))) := by
  have hc : ¬ ((l.length : Int) < 1) := by omega
  refine PCalls.of_aw Try.func59 rfl (by unfold Callable; kernel_rfl) (by kernel_rfl) (by simp [Try.ntmps59]) ?_; rw [Try.ntmps59, Try.results59]; (simp (disch := first | exact dq | fail) only [go_sem])
  (repeat' (first
    | ((first | with_reducible (first | refine aw_seq ?_ | refine aw_region (aops_run ?_)) | (with_reducible refine aw_regionD (fun _ => .p) mixed ?_ (dops_run ?_); (· kernel_rfl)) | (with_reducible refine aw_regionD (fun _ => .r) mixed ?_ (dops_run ?_); (· kernel_rfl)) | with_reducible (first | refine aw_condK ?_ | refine aw_skip ?_ | refine aw_ret ?_ | refine aw_exit ?_ | refine aw_label ?_ | refine aw_block ?_ | refine aw_scope ?_ | refine And.intro ?_ ?_)) <;> (try (simp (disch := first | exact dq | fail) only [go_sem, hc, decide_false])))
    | (with_reducible (first | refine wantK_split (fun h => ?_) (fun h => ?_) | refine condK_split (fun h => ?_) (fun h => ?_) | refine pickV_split (fun h => ?_) (fun h => ?_)) <;> (try (simp (disch := first | exact dq | fail) only [go_sem] at h)) <;> (try (simp (disch := first | exact dq | fail) only [go_sem, h, hc, decide_false])))))
  all_goals (try omega)
  refine aw_loop (α := Nat) (fun i => ⟨25, sl [(0, .iv (inl l)), (3, .iv (.int .i64 (mnF (fun i => l.getD i 0) i))), (4, .iv (.int .i64 ((i + 1 : Nat) : Int)))], [], 0⟩)
    (fun i => i < l.length) (fun i => l.length - i) 0 (wk_by [] ?_) h0 ?_
  · (simp (disch := first | exact dq | fail) only [go_sem])
    rfl
  rintro i hi
  by_cases h : i + 1 < l.length
  · have hc2 : ((i + 1 : Nat) : Int) < l.length := by omega
    (repeat' (first
    | ((first | with_reducible (first | refine aw_seq ?_ | refine aw_region (aops_run ?_)) | (with_reducible refine aw_regionD (fun _ => .p) mixed ?_ (dops_run ?_); (· kernel_rfl)) | (with_reducible refine aw_regionD (fun _ => .r) mixed ?_ (dops_run ?_); (· kernel_rfl)) | with_reducible (first | refine aw_condK ?_ | refine aw_skip ?_ | refine aw_ret ?_ | refine aw_exit ?_ | refine aw_label ?_ | refine aw_block ?_ | refine aw_scope ?_ | refine And.intro ?_ ?_)) <;> (try (simp (disch := first | exact dq | fail) only [go_sem, hc2, decide_true])))
    | (with_reducible (first | refine wantK_split (fun h => ?_) (fun h => ?_) | refine condK_split (fun h => ?_) (fun h => ?_) | refine pickV_split (fun h => ?_) (fun h => ?_)) <;> (try (simp (disch := first | exact dq | fail) only [go_sem] at h)) <;> (try (simp (disch := first | exact dq | fail) only [go_sem, h, hc2, decide_true])))))
    all_goals (try omega)
    refine ⟨i + 1, by omega, wk_by [] ?_, by omega⟩
    (simp (disch := first | exact dq | fail) only [go_sem])
    rw [show ((i : Int) + 1).toNat = i + 1 from by omega, mnF]
  · have hc2 : ¬ (((i + 1 : Nat) : Int) < l.length) := by omega
    (repeat' (first
    | ((first | with_reducible (first | refine aw_seq ?_ | refine aw_region (aops_run ?_)) | (with_reducible refine aw_regionD (fun _ => .p) mixed ?_ (dops_run ?_); (· kernel_rfl)) | (with_reducible refine aw_regionD (fun _ => .r) mixed ?_ (dops_run ?_); (· kernel_rfl)) | with_reducible (first | refine aw_condK ?_ | refine aw_skip ?_ | refine aw_ret ?_ | refine aw_exit ?_ | refine aw_label ?_ | refine aw_block ?_ | refine aw_scope ?_ | refine And.intro ?_ ?_)) <;> (try (simp (disch := first | exact dq | fail) only [go_sem, hc2, decide_false])))
    | (with_reducible (first | refine wantK_split (fun h => ?_) (fun h => ?_) | refine condK_split (fun h => ?_) (fun h => ?_) | refine pickV_split (fun h => ?_) (fun h => ?_)) <;> (try (simp (disch := first | exact dq | fail) only [go_sem] at h)) <;> (try (simp (disch := first | exact dq | fail) only [go_sem, h, hc2, decide_false])))))
    all_goals (try omega)
    rw [show i = l.length - 1 from by omega]
theorem steps8_spec (n : Nat) (hn : n ≤ 1000000) : PCalls Try.prog 62 [.int .i64 n] (inl (idL n)) := by
  have he : IV.sl 1 (rowF n (fun m => m)) = inl (idL n) := rowF_inl n _
  rw [← he]
  refine PCalls.of_aw Try.func62 rfl (by unfold Callable; kernel_rfl) (by kernel_rfl) (by simp [Try.ntmps62]) ?_; rw [Try.ntmps62, Try.results62]; (simp (disch := first | exact dq | fail) only [go_sem])
  (repeat' (first
    | ((first | with_reducible (first | refine aw_seq ?_ | refine aw_region (aops_run ?_)) | (with_reducible refine aw_regionD (fun _ => .p) mixed ?_ (dops_run ?_); (· kernel_rfl)) | (with_reducible refine aw_regionD (fun _ => .r) mixed ?_ (dops_run ?_); (· kernel_rfl)) | with_reducible (first | refine aw_condK ?_ | refine aw_skip ?_ | refine aw_ret ?_ | refine aw_exit ?_ | refine aw_label ?_ | refine aw_block ?_ | refine aw_scope ?_ | refine And.intro ?_ ?_)) <;> (try (simp (disch := first | exact dq | fail) only [go_sem])))
    | (with_reducible (first | refine wantK_split (fun h => ?_) (fun h => ?_) | refine condK_split (fun h => ?_) (fun h => ?_) | refine pickV_split (fun h => ?_) (fun h => ?_)) <;> (try (simp (disch := first | exact dq | fail) only [go_sem] at h)) <;> (try (simp (disch := first | exact dq | fail) only [go_sem, h])))))
  all_goals (try omega)
  refine aw_loop (α := Nat) (fun i => ⟨18, sl [(3, .msl 0 0 n n), (8, .iv (.int .i64 n)), (9, .iv (.int .i64 i))], [.row true 3 1 (rowF n (fun m => if m < i then m else 0))], 0⟩)
    (fun i => i ≤ n) (fun i => n - i) 0 (wk_by [1] ?_) (by omega) ?_
  · (simp (disch := first | exact dq | fail) only [go_sem, rowF_rep])
    first | rfl | (congr 2) | skip
  rintro i hi
  by_cases h : i < n
  · have hg := rowF_get (fun m => if m < i then (m : Int) else 0) h
    have hs : (rowF n (fun m => if m < i then (m : Int) else 0)).set i (.int .i64 i) = rowF n (fun m => if m < i + 1 then (m : Int) else 0) := by
      rw [rowF_set]
      refine rowF_congr (fun m hm => ?_)
      by_cases e : m = i
      · subst e; rw [if_pos rfl, if_pos (by omega)]
      · rw [if_neg e]
        by_cases h2 : m < i
        · rw [if_pos h2, if_pos (by omega)]
        · rw [if_neg h2, if_neg (by omega)]
    have hl := rowF_len n (fun m => if m < i then (m : Int) else 0)
    (repeat' (first
    | ((first | with_reducible (first | refine aw_seq ?_ | refine aw_region (aops_run ?_)) | (with_reducible refine aw_regionD (fun _ => .p) mixed ?_ (dops_run ?_); (· kernel_rfl)) | (with_reducible refine aw_regionD (fun _ => .r) mixed ?_ (dops_run ?_); (· kernel_rfl)) | with_reducible (first | refine aw_condK ?_ | refine aw_skip ?_ | refine aw_ret ?_ | refine aw_exit ?_ | refine aw_label ?_ | refine aw_block ?_ | refine aw_scope ?_ | refine And.intro ?_ ?_)) <;> (try (simp (disch := first | exact dq | fail) only [go_sem, hg, hs, hl])))
    | (with_reducible (first | refine wantK_split (fun h => ?_) (fun h => ?_) | refine condK_split (fun h => ?_) (fun h => ?_) | refine pickV_split (fun h => ?_) (fun h => ?_)) <;> (try (simp (disch := first | exact dq | fail) only [go_sem] at h)) <;> (try (simp (disch := first | exact dq | fail) only [go_sem, h, hg, hs, hl])))))
    all_goals (try omega)
    refine ⟨i + 1, by omega, wk_by [0] ?_, by omega⟩
    (simp (disch := first | exact dq | fail) only [go_sem])
  · have e : rowF n (fun m => if m < i then (m : Int) else 0) = rowF n (fun m => m) := rowF_congr (fun m hm => by rw [if_pos (by omega)])
    have hl := rowF_len n (fun m => (m : Int))
    rw [e]
    (repeat' (first
    | ((first | with_reducible (first | refine aw_seq ?_ | refine aw_region (aops_run ?_)) | (with_reducible refine aw_regionD (fun _ => .p) mixed ?_ (dops_run ?_); (· kernel_rfl)) | (with_reducible refine aw_regionD (fun _ => .r) mixed ?_ (dops_run ?_); (· kernel_rfl)) | with_reducible (first | refine aw_condK ?_ | refine aw_skip ?_ | refine aw_ret ?_ | refine aw_exit ?_ | refine aw_label ?_ | refine aw_block ?_ | refine aw_scope ?_ | refine And.intro ?_ ?_)) <;> (try (simp (disch := first | exact dq | fail) only [go_sem, hl])))
    | (with_reducible (first | refine wantK_split (fun h => ?_) (fun h => ?_) | refine condK_split (fun h => ?_) (fun h => ?_) | refine pickV_split (fun h => ?_) (fun h => ?_)) <;> (try (simp (disch := first | exact dq | fail) only [go_sem] at h)) <;> (try (simp (disch := first | exact dq | fail) only [go_sem, h, hl])))))
    all_goals (try omega)
    all_goals rw [List.take_of_length_le (by rw [hl]; exact Nat.le_refl n)]
end Go.Proofs.Ytejhomoafhnipaa.AM
