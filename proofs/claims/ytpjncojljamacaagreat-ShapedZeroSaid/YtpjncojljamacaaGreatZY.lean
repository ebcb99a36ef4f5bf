
/- Chapter 5: the law ShapedZero. Any number. -/
import Derived.Test.YtpjncojljamacaaGreatZW
set_option linter.unusedVariables false
set_option linter.unusedSimpArgs false
set_option maxRecDepth 20000
namespace Go.Proofs.YtpjncojljamacaaGreat.AM
open Go Go.RowKit

theorem zLen : PCalls Tryz.prog 13 [shZ] (.int .i64 0) := by
  unfold shZ
  refine PCalls.of_aw Tryz.func13 rfl (by unfold Callable; kernel_rfl) (by kernel_rfl) (by simp [Tryz.ntmps13]) ?_; rw [Tryz.ntmps13, Tryz.results13]; (simp (disch := first | exact dq | fail) only [go_sem])
  (repeat' first
  | ((with_reducible first | refine Nx.go ?_ | refine rP ?_ | refine rR ?_ | refine And.intro ?_ ?_ | fail) <;> try (simp (disch := first | exact dq | fail) only [go_sem]))
  | ((with_reducible refine Sp.go ?_ ?_) <;> intro h <;> (try (simp (disch := first | exact dq | fail) only [go_sem] at h)) <;> try (simp (disch := first | exact dq | fail) only [go_sem, h])) | fail)
theorem zSize : PCalls Tryz.prog 19 [shZ] (.int .i64 0) := by
  unfold shZ
  refine PCalls.of_aw Tryz.func19 rfl (by unfold Callable; kernel_rfl) (by kernel_rfl) (by simp [Tryz.ntmps19]) ?_; rw [Tryz.ntmps19, Tryz.results19]; (simp (disch := first | exact dq | fail) only [go_sem])
  (repeat' first
  | ((with_reducible first | refine Nx.go ?_ | refine rP ?_ | refine rR ?_ | refine And.intro ?_ ?_ | fail) <;> try (simp (disch := first | exact dq | fail) only [go_sem]))
  | ((with_reducible refine Sp.go ?_ ?_) <;> intro h <;> (try (simp (disch := first | exact dq | fail) only [go_sem] at h)) <;> try (simp (disch := first | exact dq | fail) only [go_sem, h])) | fail)
theorem zCost : PCalls Tryz.prog 20 [shZ] (.int .i64 0) := by
  unfold shZ
  refine PCalls.of_aw Tryz.func20 rfl (by unfold Callable; kernel_rfl) (by kernel_rfl) (by simp [Tryz.ntmps20]) ?_; rw [Tryz.ntmps20, Tryz.results20]; (simp (disch := first | exact dq | fail) only [go_sem])
  (repeat' first
  | ((with_reducible first | refine Nx.go ?_ | refine rP ?_ | refine rR ?_ | refine And.intro ?_ ?_ | fail) <;> try (simp (disch := first | exact dq | fail) only [go_sem]))
  | ((with_reducible refine Sp.go ?_ ?_) <;> intro h <;> (try (simp (disch := first | exact dq | fail) only [go_sem] at h)) <;> try (simp (disch := first | exact dq | fail) only [go_sem, h])) | fail)
  refine aw_loop (α := Unit) (fun _ => ⟨18, sl [(3, .iv (.int .i64 0)), (8, .it 1)], [.var 31 [.iv (.int .i64 0), .iv (.int .i64 0), .iv (.sl 0 []), .iv (.map [] []), .iv (.map [] [])], .obj (.miter (.iv (.map [] [])) 0 [])], 0⟩) (fun _ => True) (fun _ => 0) () (wk_by [0, 1] ?_) trivial ?_
  · (simp (disch := first | exact dq | fail) only [go_sem])
  rintro ⟨⟩ _
  (repeat' first
  | ((with_reducible first | refine Nx.go ?_ | refine rP ?_ | refine rR ?_ | refine And.intro ?_ ?_ | fail) <;> try (simp (disch := first | exact dq | fail) only [go_sem]))
  | ((with_reducible refine Sp.go ?_ ?_) <;> intro h <;> (try (simp (disch := first | exact dq | fail) only [go_sem] at h)) <;> try (simp (disch := first | exact dq | fail) only [go_sem, h])) | fail)
  refine left_nextE 1 (.iv (.map [] [])) 0 [] [] [] ?_ (fun j hj => absurd hj (Nat.not_lt_zero j)) ?_
  · (simp (disch := first | exact dq | fail) only [go_sem])
    try exact ⟨rfl, rfl⟩
  (simp (disch := first | exact dq | fail) only [go_sem])
  (repeat' first
  | ((with_reducible first | refine Nx.go ?_ | refine rP ?_ | refine rR ?_ | refine And.intro ?_ ?_ | fail) <;> try (simp (disch := first | exact dq | fail) only [go_sem]))
  | ((with_reducible refine Sp.go ?_ ?_) <;> intro h <;> (try (simp (disch := first | exact dq | fail) only [go_sem] at h)) <;> try (simp (disch := first | exact dq | fail) only [go_sem, h])) | fail)
theorem zStands (c : Int) : PCalls Tryz.prog 28 [shZ, .int .i64 c] (.bool false) := by
  unfold shZ
  by_cases h : c < 0
  · have c0 : (c < 0) = True := eq_true h
    refine PCalls.of_aw Tryz.func28 rfl (by unfold Callable; kernel_rfl) (by kernel_rfl) (by simp [Tryz.ntmps28]) ?_; rw [Tryz.ntmps28, Tryz.results28]; (simp (disch := first | exact dq | fail) only [go_sem])
    (repeat' first
  | ((with_reducible first | refine Nx.go ?_ | refine rP ?_ | refine rR ?_ | refine And.intro ?_ ?_ | fail) <;> try (simp (disch := first | exact dq | fail) only [go_sem, c0, decide_true]))
  | ((with_reducible refine Sp.go ?_ ?_) <;> intro h <;> (try (simp (disch := first | exact dq | fail) only [go_sem] at h)) <;> try (simp (disch := first | exact dq | fail) only [go_sem, h, c0, decide_true])) | fail)
  · have c0 : (c < 0) = False := eq_false h
    have c1 : (c ≥ 0) = True := eq_true (by omega)
    refine PCalls.of_aw Tryz.func28 rfl (by unfold Callable; kernel_rfl) (by kernel_rfl) (by simp [Tryz.ntmps28]) ?_; rw [Tryz.ntmps28, Tryz.results28]; (simp (disch := first | exact dq | fail) only [go_sem])
    (repeat' first
  | ((with_reducible first | refine Nx.go ?_ | refine rP ?_ | refine rR ?_ | refine And.intro ?_ ?_ | fail) <;> try (simp (disch := first | exact dq | fail) only [go_sem, c0, c1, decide_true, decide_false]))
  | ((with_reducible refine Sp.go ?_ ?_) <;> intro h <;> (try (simp (disch := first | exact dq | fail) only [go_sem] at h)) <;> try (simp (disch := first | exact dq | fail) only [go_sem, h, c0, c1, decide_true, decide_false])) | fail)
theorem zRank (c i : Int) : PCalls Tryz.prog 9 [shZ, .int .i64 c, .int .i64 i] (.int .i64 0) := by
  have hS := zStands c
  unfold shZ at *
  refine PCalls.of_aw Tryz.func9 rfl (by unfold Callable; kernel_rfl) (by kernel_rfl) (by simp [Tryz.ntmps9]) ?_; rw [Tryz.ntmps9, Tryz.results9]; (simp (disch := first | exact dq | fail) only [go_sem])
  (repeat' first
  | ((with_reducible first | refine Nx.go ?_ | refine rP ?_ | refine rR ?_ | refine And.intro ?_ ?_ | fail) <;> try (simp (disch := first | exact dq | fail) only [go_sem]))
  | ((with_reducible refine Sp.go ?_ ?_) <;> intro h <;> (try (simp (disch := first | exact dq | fail) only [go_sem] at h)) <;> try (simp (disch := first | exact dq | fail) only [go_sem, h])) | fail)
  ((with_reducible first | apply left_callf | apply leftD_callf | apply leftF_callf); (· with_reducible rfl); (· (simp (disch := first | exact dq | fail) only [go_sem]) <;> rfl); (· exact hS); try (simp (disch := first | exact dq | fail) only [go_sem]))
  (repeat' first
  | ((with_reducible first | refine Nx.go ?_ | refine rP ?_ | refine rR ?_ | refine And.intro ?_ ?_ | fail) <;> try (simp (disch := first | exact dq | fail) only [go_sem]))
  | ((with_reducible refine Sp.go ?_ ?_) <;> intro h <;> (try (simp (disch := first | exact dq | fail) only [go_sem] at h)) <;> try (simp (disch := first | exact dq | fail) only [go_sem, h])) | fail)
theorem zList : PCalls Tryz.prog 18 [shZ] (inl []) := by
  unfold shZ
  refine PCalls.of_aw Tryz.func18 rfl (by unfold Callable; kernel_rfl) (by kernel_rfl) (by simp [Tryz.ntmps18]) ?_; rw [Tryz.ntmps18, Tryz.results18]; (simp (disch := first | exact dq | fail) only [go_sem])
  (repeat' first
  | ((with_reducible first | refine Nx.go ?_ | refine rP ?_ | refine rR ?_ | refine And.intro ?_ ?_ | refine aw_rounds 64 ?_ | refine awN_step ?_ | fail) <;> try (simp (disch := first | exact dq | fail) only [go_sem]))
  | ((with_reducible refine Sp.go ?_ ?_) <;> intro h <;> (try (simp (disch := first | exact dq | fail) only [go_sem] at h)) <;> try (simp (disch := first | exact dq | fail) only [go_sem, h])) | fail)
theorem zCode (c : Int) : PCalls Tryz.prog 21 [shZ, .int .i64 c] (.str (bs [])) := by
  unfold shZ
  by_cases h : c < 0
  · have c0 : (c < 0) = True := eq_true h
    refine PCalls.of_aw Tryz.func21 rfl (by unfold Callable; kernel_rfl) (by kernel_rfl) (by simp [Tryz.ntmps21]) ?_; rw [Tryz.ntmps21, Tryz.results21]; (simp (disch := first | exact dq | fail) only [go_sem])
    (repeat' first
  | ((with_reducible first | refine Nx.go ?_ | refine rP ?_ | refine rR ?_ | refine And.intro ?_ ?_ | fail) <;> try (simp (disch := first | exact dq | fail) only [go_sem, c0, decide_true]))
  | ((with_reducible refine Sp.go ?_ ?_) <;> intro h <;> (try (simp (disch := first | exact dq | fail) only [go_sem] at h)) <;> try (simp (disch := first | exact dq | fail) only [go_sem, h, c0, decide_true])) | fail)
  · have c0 : (c < 0) = False := eq_false h
    have c1 : (c ≥ 0) = True := eq_true (by omega)
    refine PCalls.of_aw Tryz.func21 rfl (by unfold Callable; kernel_rfl) (by kernel_rfl) (by simp [Tryz.ntmps21]) ?_; rw [Tryz.ntmps21, Tryz.results21]; (simp (disch := first | exact dq | fail) only [go_sem])
    (repeat' first
  | ((with_reducible first | refine Nx.go ?_ | refine rP ?_ | refine rR ?_ | refine And.intro ?_ ?_ | fail) <;> try (simp (disch := first | exact dq | fail) only [go_sem, c0, c1, decide_true, decide_false]))
  | ((with_reducible refine Sp.go ?_ ?_) <;> intro h <;> (try (simp (disch := first | exact dq | fail) only [go_sem] at h)) <;> try (simp (disch := first | exact dq | fail) only [go_sem, h, c0, c1, decide_true, decide_false])) | fail)
theorem zAt (c : Int) : PCalls Tryz.prog 11 [shZ, .int .i64 c] (.int .i64 (-1)) := by
  unfold shZ
  by_cases h : c < 0
  · have c0 : (c < 0) = True := eq_true h
    refine PCalls.of_aw Tryz.func11 rfl (by unfold Callable; kernel_rfl) (by kernel_rfl) (by simp [Tryz.ntmps11]) ?_; rw [Tryz.ntmps11, Tryz.results11]; (simp (disch := first | exact dq | fail) only [go_sem])
    (repeat' first
  | ((with_reducible first | refine Nx.go ?_ | refine rP ?_ | refine rR ?_ | refine And.intro ?_ ?_ | fail) <;> try (simp (disch := first | exact dq | fail) only [go_sem, c0, decide_true]))
  | ((with_reducible refine Sp.go ?_ ?_) <;> intro h <;> (try (simp (disch := first | exact dq | fail) only [go_sem] at h)) <;> try (simp (disch := first | exact dq | fail) only [go_sem, h, c0, decide_true])) | fail)
  · have c0 : (c < 0) = False := eq_false h
    have c1 : (c ≥ 0) = True := eq_true (by omega)
    refine PCalls.of_aw Tryz.func11 rfl (by unfold Callable; kernel_rfl) (by kernel_rfl) (by simp [Tryz.ntmps11]) ?_; rw [Tryz.ntmps11, Tryz.results11]; (simp (disch := first | exact dq | fail) only [go_sem])
    (repeat' first
  | ((with_reducible first | refine Nx.go ?_ | refine rP ?_ | refine rR ?_ | refine And.intro ?_ ?_ | fail) <;> try (simp (disch := first | exact dq | fail) only [go_sem, c0, c1, decide_true, decide_false]))
  | ((with_reducible refine Sp.go ?_ ?_) <;> intro h <;> (try (simp (disch := first | exact dq | fail) only [go_sem] at h)) <;> try (simp (disch := first | exact dq | fail) only [go_sem, h, c0, c1, decide_true, decide_false])) | fail)
theorem zSel (c k : Int) : PCalls Tryz.prog 10 [shZ, .int .i64 c, .int .i64 k] (.int .i64 (-1)) := by
  have hR := zRank c 0
  unfold shZ at *
  by_cases h : k < 0
  · have c0 : (k < 0) = True := eq_true h
    refine PCalls.of_aw Tryz.func10 rfl (by unfold Callable; kernel_rfl) (by kernel_rfl) (by simp [Tryz.ntmps10]) ?_; rw [Tryz.ntmps10, Tryz.results10]; (simp (disch := first | exact dq | fail) only [go_sem])
    (repeat' first
  | ((with_reducible first | refine Nx.go ?_ | refine rP ?_ | refine rR ?_ | refine And.intro ?_ ?_ | fail) <;> try (simp (disch := first | exact dq | fail) only [go_sem, c0, decide_true]))
  | ((with_reducible refine Sp.go ?_ ?_) <;> intro h <;> (try (simp (disch := first | exact dq | fail) only [go_sem] at h)) <;> try (simp (disch := first | exact dq | fail) only [go_sem, h, c0, decide_true])) | fail)
  · have c0 : (k < 0) = False := eq_false h
    have c1 : (k ≥ 0) = True := eq_true (by omega)
    refine PCalls.of_aw Tryz.func10 rfl (by unfold Callable; kernel_rfl) (by kernel_rfl) (by simp [Tryz.ntmps10]) ?_; rw [Tryz.ntmps10, Tryz.results10]; (simp (disch := first | exact dq | fail) only [go_sem])
    (repeat' first
  | ((with_reducible first | refine Nx.go ?_ | refine rP ?_ | refine rR ?_ | refine And.intro ?_ ?_ | fail) <;> try (simp (disch := first | exact dq | fail) only [go_sem, c0, decide_false]))
  | ((with_reducible refine Sp.go ?_ ?_) <;> intro h <;> (try (simp (disch := first | exact dq | fail) only [go_sem] at h)) <;> try (simp (disch := first | exact dq | fail) only [go_sem, h, c0, decide_false])) | fail)
    ((with_reducible first | apply left_callf | apply leftD_callf | apply leftF_callf); (· with_reducible rfl); (· (simp (disch := first | exact dq | fail) only [go_sem]) <;> rfl); (· exact hR); try (simp (disch := first | exact dq | fail) only [go_sem]))
    (repeat' first
  | ((with_reducible first | refine Nx.go ?_ | refine rP ?_ | refine rR ?_ | refine And.intro ?_ ?_ | fail) <;> try (simp (disch := first | exact dq | fail) only [go_sem, c1, decide_true]))
  | ((with_reducible refine Sp.go ?_ ?_) <;> intro h <;> (try (simp (disch := first | exact dq | fail) only [go_sem] at h)) <;> try (simp (disch := first | exact dq | fail) only [go_sem, h, c1, decide_true])) | fail)
set_option maxHeartbeats 2000000 in
theorem ShapedZero_spec (i : Int) : PCalls Tryz.prog 5 [.int .i64 i] (.bool true) := by
  have h1 := zLen
  have h2 := zSize
  have h3 := zCost
  have h4 := zRank i i
  have h5 := zList
  have h6 := zCode i
  have h7 := zAt i
  have h8 := zSel i i
  unfold shZ at *
  refine PCalls.of_aw Tryz.func5 rfl (by unfold Callable; kernel_rfl) (by kernel_rfl) (by simp [Tryz.ntmps5]) ?_; rw [Tryz.ntmps5, Tryz.results5]; (simp (maxSteps := 1000000) (disch := first | exact dq | fail) only [go_sem])
  ((with_reducible refine aw_seq ?_); (with_reducible refine aw_region (aops_run ?_)); try (simp (maxSteps := 1000000) (disch := first | exact dq | fail) only [go_sem]))
  refine aw_cut ⟨43, sl [(0, .iv (.int .i64 i)), (3, .mp 0 0)], [.var 31 [.iv (.int .i64 0), .iv (.int .i64 0), .iv (.sl 0 []), .iv (.map [] []), .iv (.map [] [])]], 0⟩ ?_ ?_
  · (repeat' first
  | ((with_reducible first | refine Nx.go ?_ | refine rP ?_ | refine rR ?_ | refine And.intro ?_ ?_ | fail) <;> try (simp (maxSteps := 1000000) (disch := first | exact dq | fail) only [go_sem]))
  | ((with_reducible refine Sp.go ?_ ?_) <;> intro h <;> (try (simp (maxSteps := 1000000) (disch := first | exact dq | fail) only [go_sem] at h)) <;> try (simp (maxSteps := 1000000) (disch := first | exact dq | fail) only [go_sem, h])) | fail)
    refine (wk_ivc 0 0 2 rfl rfl).trans (wk_by [0] ?_)
    (simp (maxSteps := 1000000) (disch := first | exact dq | fail) only [go_sem])
  (repeat' first
  | ((with_reducible first | refine Nx.go ?_ | refine rP ?_ | refine rR ?_ | refine And.intro ?_ ?_ | fail) <;> try (simp (maxSteps := 1000000) (disch := first | exact dq | fail) only [go_sem]))
  | ((with_reducible refine Sp.go ?_ ?_) <;> intro h <;> (try (simp (maxSteps := 1000000) (disch := first | exact dq | fail) only [go_sem] at h)) <;> try (simp (maxSteps := 1000000) (disch := first | exact dq | fail) only [go_sem, h])) | fail)
  ((with_reducible first | apply left_callf | apply leftD_callf | apply leftF_callf); (· with_reducible rfl); (· (simp (maxSteps := 1000000) (disch := first | exact dq | fail) only [go_sem]) <;> rfl); (· exact awake5_spec); try (simp (maxSteps := 1000000) (disch := first | exact dq | fail) only [go_sem]))
  (repeat' first
  | ((with_reducible first | refine Nx.go ?_ | refine rP ?_ | refine rR ?_ | refine And.intro ?_ ?_ | fail) <;> try (simp (maxSteps := 1000000) (disch := first | exact dq | fail) only [go_sem]))
  | ((with_reducible refine Sp.go ?_ ?_) <;> intro h <;> (try (simp (maxSteps := 1000000) (disch := first | exact dq | fail) only [go_sem] at h)) <;> try (simp (maxSteps := 1000000) (disch := first | exact dq | fail) only [go_sem, h])) | fail)
  ((with_reducible first | apply left_callf | apply leftD_callf | apply leftF_callf); (· with_reducible rfl); (· (simp (maxSteps := 1000000) (disch := first | exact dq | fail) only [go_sem]) <;> rfl); (· exact h1); try (simp (maxSteps := 1000000) (disch := first | exact dq | fail) only [go_sem]))
  (repeat' first
  | ((with_reducible first | refine Nx.go ?_ | refine rP ?_ | refine rR ?_ | refine And.intro ?_ ?_ | fail) <;> try (simp (maxSteps := 1000000) (disch := first | exact dq | fail) only [go_sem]))
  | ((with_reducible refine Sp.go ?_ ?_) <;> intro h <;> (try (simp (maxSteps := 1000000) (disch := first | exact dq | fail) only [go_sem] at h)) <;> try (simp (maxSteps := 1000000) (disch := first | exact dq | fail) only [go_sem, h])) | fail)
  ((with_reducible first | apply left_callf | apply leftD_callf | apply leftF_callf); (· with_reducible rfl); (· (simp (maxSteps := 1000000) (disch := first | exact dq | fail) only [go_sem]) <;> rfl); (· exact h2); try (simp (maxSteps := 1000000) (disch := first | exact dq | fail) only [go_sem]))
  (repeat' first
  | ((with_reducible first | refine Nx.go ?_ | refine rP ?_ | refine rR ?_ | refine And.intro ?_ ?_ | fail) <;> try (simp (maxSteps := 1000000) (disch := first | exact dq | fail) only [go_sem]))
  | ((with_reducible refine Sp.go ?_ ?_) <;> intro h <;> (try (simp (maxSteps := 1000000) (disch := first | exact dq | fail) only [go_sem] at h)) <;> try (simp (maxSteps := 1000000) (disch := first | exact dq | fail) only [go_sem, h])) | fail)
  ((with_reducible first | apply left_callf | apply leftD_callf | apply leftF_callf); (· with_reducible rfl); (· (simp (maxSteps := 1000000) (disch := first | exact dq | fail) only [go_sem]) <;> rfl); (· exact h3); try (simp (maxSteps := 1000000) (disch := first | exact dq | fail) only [go_sem]))
  (repeat' first
  | ((with_reducible first | refine Nx.go ?_ | refine rP ?_ | refine rR ?_ | refine And.intro ?_ ?_ | fail) <;> try (simp (maxSteps := 1000000) (disch := first | exact dq | fail) only [go_sem]))
  | ((with_reducible refine Sp.go ?_ ?_) <;> intro h <;> (try (simp (maxSteps := 1000000) (disch := first | exact dq | fail) only [go_sem] at h)) <;> try (simp (maxSteps := 1000000) (disch := first | exact dq | fail) only [go_sem, h])) | fail)
  ((with_reducible first | apply left_callf | apply leftD_callf | apply leftF_callf); (· with_reducible rfl); (· (simp (maxSteps := 1000000) (disch := first | exact dq | fail) only [go_sem]) <;> rfl); (· exact h4); try (simp (maxSteps := 1000000) (disch := first | exact dq | fail) only [go_sem]))
  (repeat' first
  | ((with_reducible first | refine Nx.go ?_ | refine rP ?_ | refine rR ?_ | refine And.intro ?_ ?_ | fail) <;> try (simp (maxSteps := 1000000) (disch := first | exact dq | fail) only [go_sem]))
  | ((with_reducible refine Sp.go ?_ ?_) <;> intro h <;> (try (simp (maxSteps := 1000000) (disch := first | exact dq | fail) only [go_sem] at h)) <;> try (simp (maxSteps := 1000000) (disch := first | exact dq | fail) only [go_sem, h])) | fail)
  ((with_reducible first | apply left_callf | apply leftD_callf | apply leftF_callf); (· with_reducible rfl); (· (simp (maxSteps := 1000000) (disch := first | exact dq | fail) only [go_sem]) <;> rfl); (· exact h5); try (simp (maxSteps := 1000000) (disch := first | exact dq | fail) only [go_sem]))
  (repeat' first
  | ((with_reducible first | refine Nx.go ?_ | refine rP ?_ | refine rR ?_ | refine And.intro ?_ ?_ | fail) <;> try (simp (maxSteps := 1000000) (disch := first | exact dq | fail) only [go_sem]))
  | ((with_reducible refine Sp.go ?_ ?_) <;> intro h <;> (try (simp (maxSteps := 1000000) (disch := first | exact dq | fail) only [go_sem] at h)) <;> try (simp (maxSteps := 1000000) (disch := first | exact dq | fail) only [go_sem, h])) | fail)
  ((with_reducible first | apply left_callf | apply leftD_callf | apply leftF_callf); (· with_reducible rfl); (· (simp (maxSteps := 1000000) (disch := first | exact dq | fail) only [go_sem]) <;> rfl); (· exact h6); try (simp (maxSteps := 1000000) (disch := first | exact dq | fail) only [go_sem]))
  (repeat' first
  | ((with_reducible first | refine Nx.go ?_ | refine rP ?_ | refine rR ?_ | refine And.intro ?_ ?_ | fail) <;> try (simp (maxSteps := 1000000) (disch := first | exact dq | fail) only [go_sem]))
  | ((with_reducible refine Sp.go ?_ ?_) <;> intro h <;> (try (simp (maxSteps := 1000000) (disch := first | exact dq | fail) only [go_sem] at h)) <;> try (simp (maxSteps := 1000000) (disch := first | exact dq | fail) only [go_sem, h])) | fail)
  ((with_reducible first | apply left_callf | apply leftD_callf | apply leftF_callf); (· with_reducible rfl); (· (simp (maxSteps := 1000000) (disch := first | exact dq | fail) only [go_sem]) <;> rfl); (· exact h7); try (simp (maxSteps := 1000000) (disch := first | exact dq | fail) only [go_sem]))
  (repeat' first
  | ((with_reducible first | refine Nx.go ?_ | refine rP ?_ | refine rR ?_ | refine And.intro ?_ ?_ | fail) <;> try (simp (maxSteps := 1000000) (disch := first | exact dq | fail) only [go_sem]))
  | ((with_reducible refine Sp.go ?_ ?_) <;> intro h <;> (try (simp (maxSteps := 1000000) (disch := first | exact dq | fail) only [go_sem] at h)) <;> try (simp (maxSteps := 1000000) (disch := first | exact dq | fail) only [go_sem, h])) | fail)
  ((with_reducible first | apply left_callf | apply leftD_callf | apply leftF_callf); (· with_reducible rfl); (· (simp (maxSteps := 1000000) (disch := first | exact dq | fail) only [go_sem]) <;> rfl); (· exact h8); try (simp (maxSteps := 1000000) (disch := first | exact dq | fail) only [go_sem]))
  (repeat' first
  | ((with_reducible first | refine Nx.go ?_ | refine rP ?_ | refine rR ?_ | refine And.intro ?_ ?_ | fail) <;> try (simp (maxSteps := 1000000) (disch := first | exact dq | fail) only [go_sem]))
  | ((with_reducible refine Sp.go ?_ ?_) <;> intro h <;> (try (simp (maxSteps := 1000000) (disch := first | exact dq | fail) only [go_sem] at h)) <;> try (simp (maxSteps := 1000000) (disch := first | exact dq | fail) only [go_sem, h])) | fail)
end Go.Proofs.YtpjncojljamacaaGreat.AM
