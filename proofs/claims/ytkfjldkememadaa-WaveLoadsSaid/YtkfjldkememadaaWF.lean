
/- Chapter 4: May and Width of the references. No condition but lengths that fit. -/
import Derived.Test.YtkfjldkememadaaWB
set_option linter.unusedVariables false
set_option linter.unusedSimpArgs false
set_option maxRecDepth 20000
namespace Go.Proofs.Ytkfjldkememadaa.AM
open Go Go.RowKit

def mayB (l : List Int) (size : Int) : Bool := decide (1 ≤ size ∧ size ≤ 65536) && !(l.any (offK size))
theorem RefMay_spec (l : List Int) (size : Int) (hl : l.length ≤ 1000000) : PCalls Try.prog 30 [inl l, .int .i64 size] (.bool (mayB l size)) := by
  by_cases c1 : size < 1
  · rw [show mayB l size = false by unfold mayB; rw [decide_eq_false (by omega)]; rfl]
    refine PCalls.of_aw Try.func30 rfl (by unfold Callable; kernel_rfl) (by kernel_rfl) (by simp [Try.ntmps30]) ?_; rw [Try.ntmps30, Try.results30]; (simp (disch := first | exact dq | fail) only [go_sem])
    (repeat' (first
    | ((first | with_reducible (first | refine aw_seq ?_ | refine aw_region (aops_run ?_)) | (with_reducible refine aw_regionD (fun _ => .p) mixed ?_ (dops_run ?_); (· kernel_rfl)) | (with_reducible refine aw_regionD (fun _ => .r) mixed ?_ (dops_run ?_); (· kernel_rfl)) | with_reducible (first | refine aw_condK ?_ | refine aw_skip ?_ | refine aw_ret ?_ | refine aw_exit ?_ | refine aw_label ?_ | refine aw_block ?_ | refine aw_scope ?_ | refine And.intro ?_ ?_)) <;> (try (simp (disch := first | exact dq | fail) only [go_sem, eq_true c1, decide_true])))
    | (with_reducible (first | refine wantK_split (fun h => ?_) (fun h => ?_) | refine condK_split (fun h => ?_) (fun h => ?_) | refine pickV_split (fun h => ?_) (fun h => ?_)) <;> (try (simp (disch := first | exact dq | fail) only [go_sem] at h)) <;> (try (simp (disch := first | exact dq | fail) only [go_sem, h, eq_true c1, decide_true])))))
  by_cases c2 : size > 65536
  · rw [show mayB l size = false by unfold mayB; rw [decide_eq_false (by omega)]; rfl]
    refine PCalls.of_aw Try.func30 rfl (by unfold Callable; kernel_rfl) (by kernel_rfl) (by simp [Try.ntmps30]) ?_; rw [Try.ntmps30, Try.results30]; (simp (disch := first | exact dq | fail) only [go_sem])
    (repeat' (first
    | ((first | with_reducible (first | refine aw_seq ?_ | refine aw_region (aops_run ?_)) | (with_reducible refine aw_regionD (fun _ => .p) mixed ?_ (dops_run ?_); (· kernel_rfl)) | (with_reducible refine aw_regionD (fun _ => .r) mixed ?_ (dops_run ?_); (· kernel_rfl)) | with_reducible (first | refine aw_condK ?_ | refine aw_skip ?_ | refine aw_ret ?_ | refine aw_exit ?_ | refine aw_label ?_ | refine aw_block ?_ | refine aw_scope ?_ | refine And.intro ?_ ?_)) <;> (try (simp (disch := first | exact dq | fail) only [go_sem, eq_false c1, eq_true c2, decide_true, decide_false])))
    | (with_reducible (first | refine wantK_split (fun h => ?_) (fun h => ?_) | refine condK_split (fun h => ?_) (fun h => ?_) | refine pickV_split (fun h => ?_) (fun h => ?_)) <;> (try (simp (disch := first | exact dq | fail) only [go_sem] at h)) <;> (try (simp (disch := first | exact dq | fail) only [go_sem, h, eq_false c1, eq_true c2, decide_true, decide_false])))))
  have hb : mayB l size = !(l.any (offK size)) := by unfold mayB; rw [decide_eq_true (by omega), Bool.true_and]
  rw [hb]
  refine PCalls.of_aw Try.func30 rfl (by unfold Callable; kernel_rfl) (by kernel_rfl) (by simp [Try.ntmps30]) ?_; rw [Try.ntmps30, Try.results30]; (simp (disch := first | exact dq | fail) only [go_sem])
  (repeat' (first
    | ((first | with_reducible (first | refine aw_seq ?_ | refine aw_region (aops_run ?_)) | (with_reducible refine aw_regionD (fun _ => .p) mixed ?_ (dops_run ?_); (· kernel_rfl)) | (with_reducible refine aw_regionD (fun _ => .r) mixed ?_ (dops_run ?_); (· kernel_rfl)) | with_reducible (first | refine aw_condK ?_ | refine aw_skip ?_ | refine aw_ret ?_ | refine aw_exit ?_ | refine aw_label ?_ | refine aw_block ?_ | refine aw_scope ?_ | refine And.intro ?_ ?_)) <;> (try (simp (disch := first | exact dq | fail) only [go_sem, eq_false c1, eq_false c2, decide_false])))
    | (with_reducible (first | refine wantK_split (fun h => ?_) (fun h => ?_) | refine condK_split (fun h => ?_) (fun h => ?_) | refine pickV_split (fun h => ?_) (fun h => ?_)) <;> (try (simp (disch := first | exact dq | fail) only [go_sem] at h)) <;> (try (simp (disch := first | exact dq | fail) only [go_sem, h, eq_false c1, eq_false c2, decide_false])))))
  refine aw_loop (α := Nat) (fun i => ⟨31, sl [(0, .iv (inl l)), (1, .iv (.int .i64 size)), (5, .iv (.int .i64 i))], [], 0⟩)
    (fun i => i ≤ l.length ∧ ∀ j, j < i → offK size (l.getD j 0) = false) (fun i => l.length - i) 0 (wk_by [] ?_) ⟨by omega, fun j hj => by omega⟩ ?_
  · (simp (disch := first | exact dq | fail) only [go_sem])
  rintro i ⟨hi, hno⟩
  by_cases g : i < l.length
  · have k1 : (i : Int) < l.length := by omega
    by_cases e : l.getD i 0 < 0 ∨ size ≤ l.getD i 0
    · have hany : l.any (offK size) = true := List.any_eq_true.2 ⟨_, getD_mem g, by unfold offK; rw [Bool.or_eq_true, decide_eq_true_eq, decide_eq_true_eq]; exact e⟩
      rw [hany]
      by_cases e0 : l.getD i 0 < 0
      · (repeat' (first
    | ((first | with_reducible (first | refine aw_seq ?_ | refine aw_region (aops_run ?_)) | (with_reducible refine aw_regionD (fun _ => .p) mixed ?_ (dops_run ?_); (· kernel_rfl)) | (with_reducible refine aw_regionD (fun _ => .r) mixed ?_ (dops_run ?_); (· kernel_rfl)) | with_reducible (first | refine aw_condK ?_ | refine aw_skip ?_ | refine aw_ret ?_ | refine aw_exit ?_ | refine aw_label ?_ | refine aw_block ?_ | refine aw_scope ?_ | refine And.intro ?_ ?_)) <;> (try (simp (disch := first | exact dq | fail) only [go_sem, k1, eq_true e0, decide_true])))
    | (with_reducible (first | refine wantK_split (fun h => ?_) (fun h => ?_) | refine condK_split (fun h => ?_) (fun h => ?_) | refine pickV_split (fun h => ?_) (fun h => ?_)) <;> (try (simp (disch := first | exact dq | fail) only [go_sem] at h)) <;> (try (simp (disch := first | exact dq | fail) only [go_sem, h, k1, eq_true e0, decide_true])))))
        all_goals (try omega)
      · have e1 : l.getD i 0 ≥ size := by omega
        (repeat' (first
    | ((first | with_reducible (first | refine aw_seq ?_ | refine aw_region (aops_run ?_)) | (with_reducible refine aw_regionD (fun _ => .p) mixed ?_ (dops_run ?_); (· kernel_rfl)) | (with_reducible refine aw_regionD (fun _ => .r) mixed ?_ (dops_run ?_); (· kernel_rfl)) | with_reducible (first | refine aw_condK ?_ | refine aw_skip ?_ | refine aw_ret ?_ | refine aw_exit ?_ | refine aw_label ?_ | refine aw_block ?_ | refine aw_scope ?_ | refine And.intro ?_ ?_)) <;> (try (simp (disch := first | exact dq | fail) only [go_sem, k1, eq_false e0, eq_true e1, decide_true, decide_false])))
    | (with_reducible (first | refine wantK_split (fun h => ?_) (fun h => ?_) | refine condK_split (fun h => ?_) (fun h => ?_) | refine pickV_split (fun h => ?_) (fun h => ?_)) <;> (try (simp (disch := first | exact dq | fail) only [go_sem] at h)) <;> (try (simp (disch := first | exact dq | fail) only [go_sem, h, k1, eq_false e0, eq_true e1, decide_true, decide_false])))))
        all_goals (try omega)
    · have e0 : ¬ l.getD i 0 < 0 := by omega
      have e1 : ¬ l.getD i 0 ≥ size := by omega
      (repeat' (first
    | ((first | with_reducible (first | refine aw_seq ?_ | refine aw_region (aops_run ?_)) | (with_reducible refine aw_regionD (fun _ => .p) mixed ?_ (dops_run ?_); (· kernel_rfl)) | (with_reducible refine aw_regionD (fun _ => .r) mixed ?_ (dops_run ?_); (· kernel_rfl)) | with_reducible (first | refine aw_condK ?_ | refine aw_skip ?_ | refine aw_ret ?_ | refine aw_exit ?_ | refine aw_label ?_ | refine aw_block ?_ | refine aw_scope ?_ | refine And.intro ?_ ?_)) <;> (try (simp (disch := first | exact dq | fail) only [go_sem, k1, eq_false e0, eq_false e1, decide_true, decide_false])))
    | (with_reducible (first | refine wantK_split (fun h => ?_) (fun h => ?_) | refine condK_split (fun h => ?_) (fun h => ?_) | refine pickV_split (fun h => ?_) (fun h => ?_)) <;> (try (simp (disch := first | exact dq | fail) only [go_sem] at h)) <;> (try (simp (disch := first | exact dq | fail) only [go_sem, h, k1, eq_false e0, eq_false e1, decide_true, decide_false])))))
      all_goals (try omega)
      refine ⟨i + 1, ⟨by omega, fun j hj => ?_⟩, wk_by [] ?_, by omega⟩
      · by_cases ej : j = i
        · subst ej
          unfold offK
          rw [Bool.or_eq_false_iff, decide_eq_false_iff_not, decide_eq_false_iff_not]
          exact ⟨e0, by omega⟩
        · exact hno j (by omega)
      · (simp (disch := first | exact dq | fail) only [go_sem])
  · obtain rfl : i = l.length := by omega
    have k1 : ¬ (l.length : Int) < l.length := by omega
    have hany : l.any (offK size) = false := by
      rw [List.any_eq_false]
      intro x hx
      obtain ⟨j, hj, rfl⟩ := List.getElem_of_mem hx
      have := hno j hj
      rw [show l.getD j 0 = l[j] by simp [List.getD, List.getElem?_eq_getElem hj]] at this
      rw [this]; decide
    rw [hany]
    (repeat' (first
    | ((first | with_reducible (first | refine aw_seq ?_ | refine aw_region (aops_run ?_)) | (with_reducible refine aw_regionD (fun _ => .p) mixed ?_ (dops_run ?_); (· kernel_rfl)) | (with_reducible refine aw_regionD (fun _ => .r) mixed ?_ (dops_run ?_); (· kernel_rfl)) | with_reducible (first | refine aw_condK ?_ | refine aw_skip ?_ | refine aw_ret ?_ | refine aw_exit ?_ | refine aw_label ?_ | refine aw_block ?_ | refine aw_scope ?_ | refine And.intro ?_ ?_)) <;> (try (simp (disch := first | exact dq | fail) only [go_sem, k1, decide_false])))
    | (with_reducible (first | refine wantK_split (fun h => ?_) (fun h => ?_) | refine condK_split (fun h => ?_) (fun h => ?_) | refine pickV_split (fun h => ?_) (fun h => ?_)) <;> (try (simp (disch := first | exact dq | fail) only [go_sem] at h)) <;> (try (simp (disch := first | exact dq | fail) only [go_sem, h, k1, decide_false])))))
    all_goals (try omega)
end Go.Proofs.Ytkfjldkememadaa.AM
