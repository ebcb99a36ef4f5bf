
/- Chapter 4: symbols, few, awake. No condition. -/
import Derived.Test.YtkfjldkememadaaV9
import Derived.Test.YtkfjldkememadaaW5
set_option linter.unusedVariables false
set_option linter.unusedSimpArgs false
set_option maxRecDepth 20000
namespace Go.Proofs.Ytkfjldkememadaa.AM
open Go Go.RowKit

def exL : List Int := [3, 1, 2, 1]
theorem ex_new : PCalls Try.prog 12 [inl exL, .int .i64 4] (.tup [waveV 4 4 (rowsOf exL 2), .int .i64 0]) :=
  New_ok exL 4 (by decide) (by decide) (by decide) (by decide)
theorem ex_ok : WOk exL 2 (rowsOf exL 2) := rowsOf_ok (by decide)
theorem awake4_spec : PCalls Try.prog 10 [] (.bool true) := by
  have hN := ex_new
  have hD := Distinct_spec ex_ok 4 (by decide) (by decide) 1 4
  rw [show distL exL 2 (clI exL.length 1) (clI exL.length (max 4 (clI exL.length 1))) = [1, 2] by decide] at hD
  have hR := Rank_in ex_ok 4 1 (by decide) (by decide) 3 (by decide) (by decide)
  rw [show cN (sy exL) 1 (clI exL.length 3) = 1 by decide] at hR
  have hS1 := Select_in ex_ok 4 3 (by decide) (by decide) (by decide) (by decide)
  rw [show sy exL 3 = 1 by decide, show cN (sy exL) 1 3 = 1 by decide] at hS1
  have hS0 := Select_out1 ex_ok 4 0 (by decide) (by decide) 0 (by decide) (by decide) (by decide)
  have hB := Below_in ex_ok 4 3 (by decide) (by decide) (by decide) 4 (by decide) (by decide)
  rw [show cL (sy exL) 3 (clI exL.length 4) = 3 by decide] at hB
  have hC := Count_in ex_ok 4 1 (by decide) (by decide) 1 4 (by decide) (by decide)
  rw [show cN (sy exL) 1 (clI exL.length (max 4 (clI exL.length 1))) = 2 by decide, show cN (sy exL) 1 (clI exL.length 1) = 0 by decide] at hC
  change PCalls _ _ [.agg [.int .i64 4, .int .i64 4, .sl 7 _], _, _] _ at hD
  change PCalls _ _ [.agg [.int .i64 4, .int .i64 4, .sl 7 _], .int .i64 1, _] (.int .i64 1) at hR
  change PCalls _ _ [.agg [.int .i64 4, .int .i64 4, .sl 7 _], .int .i64 1, .int .i64 1] (.int .i64 3) at hS1
  change PCalls _ _ [.agg [.int .i64 4, .int .i64 4, .sl 7 _], .int .i64 0, _] _ at hS0
  change PCalls _ _ [.agg [.int .i64 4, .int .i64 4, .sl 7 _], .int .i64 3, _] (.int .i64 3) at hB
  change PCalls _ _ [.agg [.int .i64 4, .int .i64 4, .sl 7 _], .int .i64 1, _, _] (.int .i64 2) at hC
  change PCalls _ _ [.sl 1 [.int .i64 3, .int .i64 1, .int .i64 2, .int .i64 1], _] (.tup [.agg [.int .i64 4, .int .i64 4, .sl 7 _], _]) at hN
  generalize (rowsOf exL 2).map rankV = R at *
  refine PCalls.of_aw Try.func10 rfl (by unfold Callable; kernel_rfl) (by kernel_rfl) (by simp [Try.ntmps10]) ?_; rw [Try.ntmps10, Try.results10]; (simp (disch := first | exact dq | fail) only [go_sem])
  (repeat' (first
    | ((first | with_reducible (first | refine aw_seq ?_ | refine aw_region (aops_run ?_)) | (with_reducible refine aw_regionD (fun _ => .p) mixed ?_ (dops_run ?_); (· kernel_rfl)) | (with_reducible refine aw_regionD (fun _ => .r) mixed ?_ (dops_run ?_); (· kernel_rfl)) | with_reducible (first | refine aw_condK ?_ | refine aw_skip ?_ | refine aw_ret ?_ | refine aw_exit ?_ | refine aw_label ?_ | refine aw_block ?_ | refine aw_scope ?_ | refine And.intro ?_ ?_)) <;> (try (simp (disch := first | exact dq | fail) only [go_sem])))
    | (with_reducible (first | refine wantK_split (fun h => ?_) (fun h => ?_) | refine condK_split (fun h => ?_) (fun h => ?_) | refine pickV_split (fun h => ?_) (fun h => ?_)) <;> (try (simp (disch := first | exact dq | fail) only [go_sem] at h)) <;> (try (simp (disch := first | exact dq | fail) only [go_sem, h])))))
  ((with_reducible apply left_callfF); (· with_reducible rfl); (· (simp (disch := first | exact dq | fail) only [go_sem]) <;> rfl); (· exact hN); try (simp (disch := first | exact dq | fail) only [go_sem]))
  (repeat' (first
    | ((first | with_reducible (first | refine aw_seq ?_ | refine aw_region (aops_run ?_)) | (with_reducible refine aw_regionD (fun _ => .p) mixed ?_ (dops_run ?_); (· kernel_rfl)) | (with_reducible refine aw_regionD (fun _ => .r) mixed ?_ (dops_run ?_); (· kernel_rfl)) | with_reducible (first | refine aw_condK ?_ | refine aw_skip ?_ | refine aw_ret ?_ | refine aw_exit ?_ | refine aw_label ?_ | refine aw_block ?_ | refine aw_scope ?_ | refine And.intro ?_ ?_)) <;> (try (simp (disch := first | exact dq | fail) only [go_sem])))
    | (with_reducible (first | refine wantK_split (fun h => ?_) (fun h => ?_) | refine condK_split (fun h => ?_) (fun h => ?_) | refine pickV_split (fun h => ?_) (fun h => ?_)) <;> (try (simp (disch := first | exact dq | fail) only [go_sem] at h)) <;> (try (simp (disch := first | exact dq | fail) only [go_sem, h])))))
  ((first | with_reducible apply left_callf | with_reducible apply leftD_callf | with_reducible apply leftF_callf); (· with_reducible rfl); (· (simp (disch := first | exact dq | fail) only [go_sem]) <;> rfl); (· exact hD); try (simp (disch := first | exact dq | fail) only [go_sem]))
  (repeat' (first
    | ((first | with_reducible (first | refine aw_seq ?_ | refine aw_region (aops_run ?_)) | (with_reducible refine aw_regionD (fun _ => .p) mixed ?_ (dops_run ?_); (· kernel_rfl)) | (with_reducible refine aw_regionD (fun _ => .r) mixed ?_ (dops_run ?_); (· kernel_rfl)) | with_reducible (first | refine aw_condK ?_ | refine aw_skip ?_ | refine aw_ret ?_ | refine aw_exit ?_ | refine aw_label ?_ | refine aw_block ?_ | refine aw_scope ?_ | refine And.intro ?_ ?_)) <;> (try (simp (disch := first | exact dq | fail) only [go_sem])))
    | (with_reducible (first | refine wantK_split (fun h => ?_) (fun h => ?_) | refine condK_split (fun h => ?_) (fun h => ?_) | refine pickV_split (fun h => ?_) (fun h => ?_)) <;> (try (simp (disch := first | exact dq | fail) only [go_sem] at h)) <;> (try (simp (disch := first | exact dq | fail) only [go_sem, h])))))
  ((first | with_reducible apply left_callf | with_reducible apply leftD_callf | with_reducible apply leftF_callf); (· with_reducible rfl); (· (simp (disch := first | exact dq | fail) only [go_sem]) <;> rfl); (· exact hR); try (simp (disch := first | exact dq | fail) only [go_sem]))
  (repeat' (first
    | ((first | with_reducible (first | refine aw_seq ?_ | refine aw_region (aops_run ?_)) | (with_reducible refine aw_regionD (fun _ => .p) mixed ?_ (dops_run ?_); (· kernel_rfl)) | (with_reducible refine aw_regionD (fun _ => .r) mixed ?_ (dops_run ?_); (· kernel_rfl)) | with_reducible (first | refine aw_condK ?_ | refine aw_skip ?_ | refine aw_ret ?_ | refine aw_exit ?_ | refine aw_label ?_ | refine aw_block ?_ | refine aw_scope ?_ | refine And.intro ?_ ?_)) <;> (try (simp (disch := first | exact dq | fail) only [go_sem])))
    | (with_reducible (first | refine wantK_split (fun h => ?_) (fun h => ?_) | refine condK_split (fun h => ?_) (fun h => ?_) | refine pickV_split (fun h => ?_) (fun h => ?_)) <;> (try (simp (disch := first | exact dq | fail) only [go_sem] at h)) <;> (try (simp (disch := first | exact dq | fail) only [go_sem, h])))))
  ((first | with_reducible apply left_callf | with_reducible apply leftD_callf | with_reducible apply leftF_callf); (· with_reducible rfl); (· (simp (disch := first | exact dq | fail) only [go_sem]) <;> rfl); (· exact hS1); try (simp (disch := first | exact dq | fail) only [go_sem]))
  (repeat' (first
    | ((first | with_reducible (first | refine aw_seq ?_ | refine aw_region (aops_run ?_)) | (with_reducible refine aw_regionD (fun _ => .p) mixed ?_ (dops_run ?_); (· kernel_rfl)) | (with_reducible refine aw_regionD (fun _ => .r) mixed ?_ (dops_run ?_); (· kernel_rfl)) | with_reducible (first | refine aw_condK ?_ | refine aw_skip ?_ | refine aw_ret ?_ | refine aw_exit ?_ | refine aw_label ?_ | refine aw_block ?_ | refine aw_scope ?_ | refine And.intro ?_ ?_)) <;> (try (simp (disch := first | exact dq | fail) only [go_sem])))
    | (with_reducible (first | refine wantK_split (fun h => ?_) (fun h => ?_) | refine condK_split (fun h => ?_) (fun h => ?_) | refine pickV_split (fun h => ?_) (fun h => ?_)) <;> (try (simp (disch := first | exact dq | fail) only [go_sem] at h)) <;> (try (simp (disch := first | exact dq | fail) only [go_sem, h])))))
  ((first | with_reducible apply left_callf | with_reducible apply leftD_callf | with_reducible apply leftF_callf); (· with_reducible rfl); (· (simp (disch := first | exact dq | fail) only [go_sem]) <;> rfl); (· exact hS0); try (simp (disch := first | exact dq | fail) only [go_sem]))
  (repeat' (first
    | ((first | with_reducible (first | refine aw_seq ?_ | refine aw_region (aops_run ?_)) | (with_reducible refine aw_regionD (fun _ => .p) mixed ?_ (dops_run ?_); (· kernel_rfl)) | (with_reducible refine aw_regionD (fun _ => .r) mixed ?_ (dops_run ?_); (· kernel_rfl)) | with_reducible (first | refine aw_condK ?_ | refine aw_skip ?_ | refine aw_ret ?_ | refine aw_exit ?_ | refine aw_label ?_ | refine aw_block ?_ | refine aw_scope ?_ | refine And.intro ?_ ?_)) <;> (try (simp (disch := first | exact dq | fail) only [go_sem])))
    | (with_reducible (first | refine wantK_split (fun h => ?_) (fun h => ?_) | refine condK_split (fun h => ?_) (fun h => ?_) | refine pickV_split (fun h => ?_) (fun h => ?_)) <;> (try (simp (disch := first | exact dq | fail) only [go_sem] at h)) <;> (try (simp (disch := first | exact dq | fail) only [go_sem, h])))))
  ((first | with_reducible apply left_callf | with_reducible apply leftD_callf | with_reducible apply leftF_callf); (· with_reducible rfl); (· (simp (disch := first | exact dq | fail) only [go_sem]) <;> rfl); (· exact hB); try (simp (disch := first | exact dq | fail) only [go_sem]))
  (repeat' (first
    | ((first | with_reducible (first | refine aw_seq ?_ | refine aw_region (aops_run ?_)) | (with_reducible refine aw_regionD (fun _ => .p) mixed ?_ (dops_run ?_); (· kernel_rfl)) | (with_reducible refine aw_regionD (fun _ => .r) mixed ?_ (dops_run ?_); (· kernel_rfl)) | with_reducible (first | refine aw_condK ?_ | refine aw_skip ?_ | refine aw_ret ?_ | refine aw_exit ?_ | refine aw_label ?_ | refine aw_block ?_ | refine aw_scope ?_ | refine And.intro ?_ ?_)) <;> (try (simp (disch := first | exact dq | fail) only [go_sem])))
    | (with_reducible (first | refine wantK_split (fun h => ?_) (fun h => ?_) | refine condK_split (fun h => ?_) (fun h => ?_) | refine pickV_split (fun h => ?_) (fun h => ?_)) <;> (try (simp (disch := first | exact dq | fail) only [go_sem] at h)) <;> (try (simp (disch := first | exact dq | fail) only [go_sem, h])))))
  ((first | with_reducible apply left_callf | with_reducible apply leftD_callf | with_reducible apply leftF_callf); (· with_reducible rfl); (· (simp (disch := first | exact dq | fail) only [go_sem]) <;> rfl); (· exact hC); try (simp (disch := first | exact dq | fail) only [go_sem]))
  (repeat' (first
    | ((first | with_reducible (first | refine aw_seq ?_ | refine aw_region (aops_run ?_)) | (with_reducible refine aw_regionD (fun _ => .p) mixed ?_ (dops_run ?_); (· kernel_rfl)) | (with_reducible refine aw_regionD (fun _ => .r) mixed ?_ (dops_run ?_); (· kernel_rfl)) | with_reducible (first | refine aw_condK ?_ | refine aw_skip ?_ | refine aw_ret ?_ | refine aw_exit ?_ | refine aw_label ?_ | refine aw_block ?_ | refine aw_scope ?_ | refine And.intro ?_ ?_)) <;> (try (simp (disch := first | exact dq | fail) only [go_sem])))
    | (with_reducible (first | refine wantK_split (fun h => ?_) (fun h => ?_) | refine condK_split (fun h => ?_) (fun h => ?_) | refine pickV_split (fun h => ?_) (fun h => ?_)) <;> (try (simp (disch := first | exact dq | fail) only [go_sem] at h)) <;> (try (simp (disch := first | exact dq | fail) only [go_sem, h])))))
end Go.Proofs.Ytkfjldkememadaa.AM
