
/- Chapter 7: few, alike, awake. No condition. -/
import Derived.Test.YtejhomoafhnipaaS20
set_option linter.unusedVariables false
set_option linter.unusedSimpArgs false
set_option maxRecDepth 20000
namespace Go.Proofs.Ytejhomoafhnipaa.AM
open Go Go.RowKit

theorem few7_spec (l : List Int) : PCalls Try.prog 21 [inl l] (inl (l.take 40)) := by
  refine PCalls.of_aw Try.func21 rfl (by unfold Callable; kernel_rfl) (by kernel_rfl) (by simp [Try.ntmps21]) ?_; rw [Try.ntmps21, Try.results21]; (simp (maxSteps := 1000000) (disch := first | exact dq | fail) only [go_sem])
  (repeat' (first
    | ((first | with_reducible (first | refine aw_seq ?_ | refine aw_region (aops_run ?_)) | (with_reducible refine aw_regionD (fun _ => .p) mixed ?_ (dops_run ?_); (· kernel_rfl)) | (with_reducible refine aw_regionD (fun _ => .r) mixed ?_ (dops_run ?_); (· kernel_rfl)) | with_reducible (first | refine aw_condK ?_ | refine aw_skip ?_ | refine aw_ret ?_ | refine aw_exit ?_ | refine aw_label ?_ | refine aw_block ?_ | refine aw_scope ?_ | refine And.intro ?_ ?_)) <;> (try (simp (maxSteps := 1000000) (disch := first | exact dq | fail) only [go_sem])))
    | (with_reducible (first | refine wantK_split (fun h => ?_) (fun h => ?_) | refine condK_split (fun h => ?_) (fun h => ?_) | refine pickV_split (fun h => ?_) (fun h => ?_)) <;> (try (simp (maxSteps := 1000000) (disch := first | exact dq | fail) only [go_sem] at h)) <;> (try (simp (maxSteps := 1000000) (disch := first | exact dq | fail) only [go_sem, h])))))
  all_goals (try omega)
  · rw [List.map_take]
  · rw [List.take_of_length_le (by omega)]
/-- Numbers made alike: at most so many of them, by their rests. -/
def alkL (c : Nat) (n : Int) (l : List Int) : List Int := (l.take c).map (cutS (1 + n % 4))
theorem alkL_len (c : Nat) (n : Int) (l : List Int) : (alkL c n l).length = min c l.length := by unfold alkL; rw [List.length_map, List.length_take]
theorem alkL_at {c : Nat} {n : Int} {l : List Int} {i : Nat} (h : i < (alkL c n l).length) : (alkL c n l).getD i 0 = cutS (1 + n % 4) (l.getD i 0) := by
  have hl := alkL_len c n l
  unfold alkL
  rw [getD_map_at (by rw [List.length_take]; omega)]
  congr 1
  simp only [List.getD, List.getElem?_take]
  rw [if_pos (by omega)]
theorem alkL_rng {c : Nat} {n : Int} {l : List Int} {x : Int} (h : x ∈ alkL c n l) : 0 ≤ x ∧ x < 4 := by
  unfold alkL at h
  obtain ⟨y, _, rfl⟩ := List.mem_map.1 h
  have := cutS_range (s := 1 + n % 4) (by omega) y
  omega
theorem alike7_spec (l : List Int) (n : Int) : PCalls Try.prog 16 [inl l, .int .i64 n] (inl (alkL 40 n l)) := by
  have em : bitI .and .i64 n 3 = n % 4 := and_maskS n 4 2 (by decide) rfl
  obtain ⟨k, hk⟩ : ∃ k, k = 1 + n % 4 := ⟨_, rfl⟩
  have hk0 : 0 < k ∧ k ≤ 4 := by omega
  have hw := cutS_wrap hk0.1 (by omega)
  have hml := alkL_len 40 n l
  have hma := fun i => @alkL_at 40 n l i
  rw [← hk] at hma
  generalize alkL 40 n l = m at *
  refine PCalls.of_aw Try.func16 rfl (by unfold Callable; kernel_rfl) (by kernel_rfl) (by simp [Try.ntmps16]) ?_; rw [Try.ntmps16, Try.results16]; (simp (maxSteps := 1000000) (disch := first | exact dq | fail) only [go_sem])
  (repeat' (first
    | ((first | with_reducible (first | refine aw_seq ?_ | refine aw_region (aops_run ?_)) | (with_reducible refine aw_regionD (fun _ => .p) mixed ?_ (dops_run ?_); (· kernel_rfl)) | (with_reducible refine aw_regionD (fun _ => .r) mixed ?_ (dops_run ?_); (· kernel_rfl)) | with_reducible (first | refine aw_condK ?_ | refine aw_skip ?_ | refine aw_ret ?_ | refine aw_exit ?_ | refine aw_label ?_ | refine aw_block ?_ | refine aw_scope ?_ | refine And.intro ?_ ?_)) <;> (try (simp (maxSteps := 1000000) (disch := first | exact dq | fail) only [go_sem, em])))
    | (with_reducible (first | refine wantK_split (fun h => ?_) (fun h => ?_) | refine condK_split (fun h => ?_) (fun h => ?_) | refine pickV_split (fun h => ?_) (fun h => ?_)) <;> (try (simp (maxSteps := 1000000) (disch := first | exact dq | fail) only [go_sem] at h)) <;> (try (simp (maxSteps := 1000000) (disch := first | exact dq | fail) only [go_sem, h, em])))))
  simp only [← hk]
  refine aw_loop (α := Nat) (fun i => ⟨35, sl [(0, .iv (inl l)), (5, .iv (.int .i64 k)), (6, .msl 0 0 i i), (7, .iv (.int .i64 i))], [.row true 3 1 ((m.take i).map (IV.int .i64))], 0⟩)
    (fun i => i ≤ m.length) (fun i => m.length - i) 0 (wk_by [1] ?_) (by omega) ?_
  · (simp (maxSteps := 1000000) (disch := first | exact dq | fail) only [go_sem])
  rintro i hi
  have htl : (m.take i).length = i := by rw [List.length_take]; omega
  by_cases h : i < m.length
  · have c1 : (i : Int) < l.length := by omega
    have c2 : (i : Int) < 40 := by omega
    have ht := take_snoc m h
    rw [hma i h] at ht
    (repeat' (first
    | ((first | with_reducible (first | refine aw_seq ?_ | refine aw_region (aops_run ?_)) | (with_reducible refine aw_regionD (fun _ => .p) mixed ?_ (dops_run ?_); (· kernel_rfl)) | (with_reducible refine aw_regionD (fun _ => .r) mixed ?_ (dops_run ?_); (· kernel_rfl)) | with_reducible (first | refine aw_condK ?_ | refine aw_skip ?_ | refine aw_ret ?_ | refine aw_exit ?_ | refine aw_label ?_ | refine aw_block ?_ | refine aw_scope ?_ | refine And.intro ?_ ?_)) <;> (try (simp (maxSteps := 1000000) (disch := first | exact dq | fail) only [go_sem, htl, hw, c1, c2, decide_true])))
    | (with_reducible (first | refine wantK_split (fun h => ?_) (fun h => ?_) | refine condK_split (fun h => ?_) (fun h => ?_) | refine pickV_split (fun h => ?_) (fun h => ?_)) <;> (try (simp (maxSteps := 1000000) (disch := first | exact dq | fail) only [go_sem] at h)) <;> (try (simp (maxSteps := 1000000) (disch := first | exact dq | fail) only [go_sem, h, htl, hw, c1, c2, decide_true])))))
    all_goals (try omega)
    refine ⟨i + 1, by omega, wk_by [0] ?_, by omega⟩
    (simp (maxSteps := 1000000) (disch := first | exact dq | fail) only [go_sem, ht, List.map_append])
  · have e : m.take i = m := List.take_of_length_le (by omega)
    obtain rfl : i = m.length := by omega
    rw [e]
    by_cases c1 : m.length < l.length
    · have c1' : (m.length : Int) < l.length := by omega
      have c2 : ¬ ((m.length : Int) < 40) := by omega
      (repeat' (first
    | ((first | with_reducible (first | refine aw_seq ?_ | refine aw_region (aops_run ?_)) | (with_reducible refine aw_regionD (fun _ => .p) mixed ?_ (dops_run ?_); (· kernel_rfl)) | (with_reducible refine aw_regionD (fun _ => .r) mixed ?_ (dops_run ?_); (· kernel_rfl)) | with_reducible (first | refine aw_condK ?_ | refine aw_skip ?_ | refine aw_ret ?_ | refine aw_exit ?_ | refine aw_label ?_ | refine aw_block ?_ | refine aw_scope ?_ | refine And.intro ?_ ?_)) <;> (try (simp (maxSteps := 1000000) (disch := first | exact dq | fail) only [go_sem, c1', c2, decide_true, decide_false])))
    | (with_reducible (first | refine wantK_split (fun h => ?_) (fun h => ?_) | refine condK_split (fun h => ?_) (fun h => ?_) | refine pickV_split (fun h => ?_) (fun h => ?_)) <;> (try (simp (maxSteps := 1000000) (disch := first | exact dq | fail) only [go_sem] at h)) <;> (try (simp (maxSteps := 1000000) (disch := first | exact dq | fail) only [go_sem, h, c1', c2, decide_true, decide_false])))))
      all_goals (try omega)
      all_goals (try (rw [List.take_of_length_le (by simp)]))
    · have c1' : ¬ ((m.length : Int) < l.length) := by omega
      (repeat' (first
    | ((first | with_reducible (first | refine aw_seq ?_ | refine aw_region (aops_run ?_)) | (with_reducible refine aw_regionD (fun _ => .p) mixed ?_ (dops_run ?_); (· kernel_rfl)) | (with_reducible refine aw_regionD (fun _ => .r) mixed ?_ (dops_run ?_); (· kernel_rfl)) | with_reducible (first | refine aw_condK ?_ | refine aw_skip ?_ | refine aw_ret ?_ | refine aw_exit ?_ | refine aw_label ?_ | refine aw_block ?_ | refine aw_scope ?_ | refine And.intro ?_ ?_)) <;> (try (simp (maxSteps := 1000000) (disch := first | exact dq | fail) only [go_sem, c1', decide_false])))
    | (with_reducible (first | refine wantK_split (fun h => ?_) (fun h => ?_) | refine condK_split (fun h => ?_) (fun h => ?_) | refine pickV_split (fun h => ?_) (fun h => ?_)) <;> (try (simp (maxSteps := 1000000) (disch := first | exact dq | fail) only [go_sem] at h)) <;> (try (simp (maxSteps := 1000000) (disch := first | exact dq | fail) only [go_sem, h, c1', decide_false])))))
      all_goals (try omega)
      all_goals (try (rw [List.take_of_length_le (by simp)]))
theorem sa_ex : saL [2, 1, 3, 1, 3, 1] = [5, 3, 1, 0, 4, 2] := by decide
theorem com_ex : comL [2, 1, 3, 1, 3, 1] = [0, 1, 3, 0, 0, 2] := by decide
theorem find_ex : cntF (wlP [2, 1, 3, 1, 3, 1] [1, 3]) 6 = 1 ∧ cntF (eqP [2, 1, 3, 1, 3, 1] [1, 3]) 6 = 2 := by decide
theorem awake7_spec : PCalls Try.prog 15 [] (.bool true) := by
  have hA := Array_any [2, 1, 3, 1, 3, 1] (by decide)
  rw [sa_ex] at hA
  have hC := Common_ok [2, 1, 3, 1, 3, 1] (by decide)
  rw [sa_ex, com_ex] at hC
  have hF : PCalls Try.prog 22 [inl [2, 1, 3, 1, 3, 1], inl [5, 3, 1, 0, 4, 2], inl [1, 3]] (.tup [.int .i64 1, .int .i64 3]) := by
    have := Find_sa [2, 1, 3, 1, 3, 1] [1, 3] (by decide) (by decide)
    rw [sa_ex, show ([2, 1, 3, 1, 3, 1] : List Int).length = 6 from rfl, find_ex.1, find_ex.2] at this
    exact this
  refine PCalls.of_aw Try.func15 rfl (by unfold Callable; kernel_rfl) (by kernel_rfl) (by simp [Try.ntmps15]) ?_; rw [Try.ntmps15, Try.results15]; (simp (maxSteps := 1000000) (disch := first | exact dq | fail) only [go_sem])
  (repeat' (first
    | ((first | with_reducible (first | refine aw_seq ?_ | refine aw_region (aops_run ?_)) | (with_reducible refine aw_regionD (fun _ => .p) mixed ?_ (dops_run ?_); (· kernel_rfl)) | (with_reducible refine aw_regionD (fun _ => .r) mixed ?_ (dops_run ?_); (· kernel_rfl)) | with_reducible (first | refine aw_condK ?_ | refine aw_skip ?_ | refine aw_ret ?_ | refine aw_exit ?_ | refine aw_label ?_ | refine aw_block ?_ | refine aw_scope ?_ | refine And.intro ?_ ?_)) <;> (try (simp (maxSteps := 1000000) (disch := first | exact dq | fail) only [go_sem])))
    | (with_reducible (first | refine wantK_split (fun h => ?_) (fun h => ?_) | refine condK_split (fun h => ?_) (fun h => ?_) | refine pickV_split (fun h => ?_) (fun h => ?_)) <;> (try (simp (maxSteps := 1000000) (disch := first | exact dq | fail) only [go_sem] at h)) <;> (try (simp (maxSteps := 1000000) (disch := first | exact dq | fail) only [go_sem, h])))))
  ((with_reducible apply left_callfF); (· with_reducible rfl); (· (simp (maxSteps := 1000000) (disch := first | exact dq | fail) only [go_sem]) <;> rfl); (· exact hA); try (simp (maxSteps := 1000000) (disch := first | exact dq | fail) only [go_sem]))
  (repeat' (first
    | ((first | with_reducible (first | refine aw_seq ?_ | refine aw_region (aops_run ?_)) | (with_reducible refine aw_regionD (fun _ => .p) mixed ?_ (dops_run ?_); (· kernel_rfl)) | (with_reducible refine aw_regionD (fun _ => .r) mixed ?_ (dops_run ?_); (· kernel_rfl)) | with_reducible (first | refine aw_condK ?_ | refine aw_skip ?_ | refine aw_ret ?_ | refine aw_exit ?_ | refine aw_label ?_ | refine aw_block ?_ | refine aw_scope ?_ | refine And.intro ?_ ?_)) <;> (try (simp (maxSteps := 1000000) (disch := first | exact dq | fail) only [go_sem])))
    | (with_reducible (first | refine wantK_split (fun h => ?_) (fun h => ?_) | refine condK_split (fun h => ?_) (fun h => ?_) | refine pickV_split (fun h => ?_) (fun h => ?_)) <;> (try (simp (maxSteps := 1000000) (disch := first | exact dq | fail) only [go_sem] at h)) <;> (try (simp (maxSteps := 1000000) (disch := first | exact dq | fail) only [go_sem, h])))))
  ((with_reducible apply left_callfF); (· with_reducible rfl); (· (simp (maxSteps := 1000000) (disch := first | exact dq | fail) only [go_sem]) <;> rfl); (· exact hC); try (simp (maxSteps := 1000000) (disch := first | exact dq | fail) only [go_sem]))
  (repeat' (first
    | ((first | with_reducible (first | refine aw_seq ?_ | refine aw_region (aops_run ?_)) | (with_reducible refine aw_regionD (fun _ => .p) mixed ?_ (dops_run ?_); (· kernel_rfl)) | (with_reducible refine aw_regionD (fun _ => .r) mixed ?_ (dops_run ?_); (· kernel_rfl)) | with_reducible (first | refine aw_condK ?_ | refine aw_skip ?_ | refine aw_ret ?_ | refine aw_exit ?_ | refine aw_label ?_ | refine aw_block ?_ | refine aw_scope ?_ | refine And.intro ?_ ?_)) <;> (try (simp (maxSteps := 1000000) (disch := first | exact dq | fail) only [go_sem])))
    | (with_reducible (first | refine wantK_split (fun h => ?_) (fun h => ?_) | refine condK_split (fun h => ?_) (fun h => ?_) | refine pickV_split (fun h => ?_) (fun h => ?_)) <;> (try (simp (maxSteps := 1000000) (disch := first | exact dq | fail) only [go_sem] at h)) <;> (try (simp (maxSteps := 1000000) (disch := first | exact dq | fail) only [go_sem, h])))))
  ((with_reducible apply left_callfF); (· with_reducible rfl); (· (simp (maxSteps := 1000000) (disch := first | exact dq | fail) only [go_sem]) <;> rfl); (· exact hF); try (simp (maxSteps := 1000000) (disch := first | exact dq | fail) only [go_sem]))
  (repeat' (first
    | ((first | with_reducible (first | refine aw_seq ?_ | refine aw_region (aops_run ?_)) | (with_reducible refine aw_regionD (fun _ => .p) mixed ?_ (dops_run ?_); (· kernel_rfl)) | (with_reducible refine aw_regionD (fun _ => .r) mixed ?_ (dops_run ?_); (· kernel_rfl)) | with_reducible (first | refine aw_condK ?_ | refine aw_skip ?_ | refine aw_ret ?_ | refine aw_exit ?_ | refine aw_label ?_ | refine aw_block ?_ | refine aw_scope ?_ | refine And.intro ?_ ?_)) <;> (try (simp (maxSteps := 1000000) (disch := first | exact dq | fail) only [go_sem])))
    | (with_reducible (first | refine wantK_split (fun h => ?_) (fun h => ?_) | refine condK_split (fun h => ?_) (fun h => ?_) | refine pickV_split (fun h => ?_) (fun h => ?_)) <;> (try (simp (maxSteps := 1000000) (disch := first | exact dq | fail) only [go_sem] at h)) <;> (try (simp (maxSteps := 1000000) (disch := first | exact dq | fail) only [go_sem, h])))))
  ((with_reducible apply left_callfF); (· with_reducible rfl); (· (simp (maxSteps := 1000000) (disch := first | exact dq | fail) only [go_sem]) <;> rfl); (· exact RefSameI_spec [5, 3, 1, 0, 4, 2] [5, 3, 1, 0, 4, 2] (by decide)); try (simp (maxSteps := 1000000) (disch := first | exact dq | fail) only [go_sem]))
  (repeat' (first
    | ((first | with_reducible (first | refine aw_seq ?_ | refine aw_region (aops_run ?_)) | (with_reducible refine aw_regionD (fun _ => .p) mixed ?_ (dops_run ?_); (· kernel_rfl)) | (with_reducible refine aw_regionD (fun _ => .r) mixed ?_ (dops_run ?_); (· kernel_rfl)) | with_reducible (first | refine aw_condK ?_ | refine aw_skip ?_ | refine aw_ret ?_ | refine aw_exit ?_ | refine aw_label ?_ | refine aw_block ?_ | refine aw_scope ?_ | refine And.intro ?_ ?_)) <;> (try (simp (maxSteps := 1000000) (disch := first | exact dq | fail) only [go_sem])))
    | (with_reducible (first | refine wantK_split (fun h => ?_) (fun h => ?_) | refine condK_split (fun h => ?_) (fun h => ?_) | refine pickV_split (fun h => ?_) (fun h => ?_)) <;> (try (simp (maxSteps := 1000000) (disch := first | exact dq | fail) only [go_sem] at h)) <;> (try (simp (maxSteps := 1000000) (disch := first | exact dq | fail) only [go_sem, h])))))
  ((with_reducible apply left_callfF); (· with_reducible rfl); (· (simp (maxSteps := 1000000) (disch := first | exact dq | fail) only [go_sem]) <;> rfl); (· exact RefSameI_spec [0, 1, 3, 0, 0, 2] [0, 1, 3, 0, 0, 2] (by decide)); try (simp (maxSteps := 1000000) (disch := first | exact dq | fail) only [go_sem]))
  (repeat' (first
    | ((first | with_reducible (first | refine aw_seq ?_ | refine aw_region (aops_run ?_)) | (with_reducible refine aw_regionD (fun _ => .p) mixed ?_ (dops_run ?_); (· kernel_rfl)) | (with_reducible refine aw_regionD (fun _ => .r) mixed ?_ (dops_run ?_); (· kernel_rfl)) | with_reducible (first | refine aw_condK ?_ | refine aw_skip ?_ | refine aw_ret ?_ | refine aw_exit ?_ | refine aw_label ?_ | refine aw_block ?_ | refine aw_scope ?_ | refine And.intro ?_ ?_)) <;> (try (simp (maxSteps := 1000000) (disch := first | exact dq | fail) only [go_sem])))
    | (with_reducible (first | refine wantK_split (fun h => ?_) (fun h => ?_) | refine condK_split (fun h => ?_) (fun h => ?_) | refine pickV_split (fun h => ?_) (fun h => ?_)) <;> (try (simp (maxSteps := 1000000) (disch := first | exact dq | fail) only [go_sem] at h)) <;> (try (simp (maxSteps := 1000000) (disch := first | exact dq | fail) only [go_sem, h])))))
end Go.Proofs.Ytejhomoafhnipaa.AM
