
/- Chapter 5: which of two heaps is lighter; binary search among heaps. No condition but lengths that fit. -/
import Derived.Test.YtpjncojljamacaaGreatZE
import Derived.Test.YtpjncojljamacaaGreatSB
import Derived.Test.YtpjncojljamacaaGreatXS
set_option linter.unusedVariables false
set_option linter.unusedSimpArgs false
set_option maxRecDepth 20000
namespace Go.Proofs.YtpjncojljamacaaGreat.AM
open Go Go.RowKit

def hpV (h : Hea) : IV := .agg [.int .i64 h.w, .int .i64 h.n, inl h.s]
theorem hpV_e (h : Hea) : hpV h = .agg [.int .i64 h.w, .int .i64 h.n, inl h.s] := rfl
theorem Or2_spec (a b : Int) : PCalls Tryz.prog 58 [inl [a, b]] (.int .i64 (if a = 0 then b else a)) := by
  unfold inl
  simp only [List.map_cons, List.map_nil]
  by_cases h : a = 0
  · subst h
    rw [if_pos rfl]
    by_cases h2 : b = 0
    · subst h2
      refine PCalls.of_aw Tryz.func58 rfl (by unfold Callable; kernel_rfl) (by kernel_rfl) (by simp [Tryz.ntmps58]) ?_; rw [Tryz.ntmps58, Tryz.results58]; (simp (disch := first | exact dq | fail) only [go_sem])
      (repeat' first
  | ((with_reducible first | refine Nx.go ?_ | refine rP ?_ | refine rR ?_ | refine And.intro ?_ ?_ | refine aw_rounds 64 ?_ | refine awN_step ?_ | fail) <;> try (simp (disch := first | exact dq | fail) only [go_sem]))
  | ((with_reducible refine Sp.go ?_ ?_) <;> intro h <;> (try (simp (disch := first | exact dq | fail) only [go_sem] at h)) <;> try (simp (disch := first | exact dq | fail) only [go_sem, h])) | fail)
      all_goals (try omega)
    · refine PCalls.of_aw Tryz.func58 rfl (by unfold Callable; kernel_rfl) (by kernel_rfl) (by simp [Tryz.ntmps58]) ?_; rw [Tryz.ntmps58, Tryz.results58]; (simp (disch := first | exact dq | fail) only [go_sem])
      (repeat' first
  | ((with_reducible first | refine Nx.go ?_ | refine rP ?_ | refine rR ?_ | refine And.intro ?_ ?_ | refine aw_rounds 64 ?_ | refine awN_step ?_ | fail) <;> try (simp (disch := first | exact dq | fail) only [go_sem, eq_false h2, decide_false, decide_true]))
  | ((with_reducible refine Sp.go ?_ ?_) <;> intro h <;> (try (simp (disch := first | exact dq | fail) only [go_sem] at h)) <;> try (simp (disch := first | exact dq | fail) only [go_sem, h, eq_false h2, decide_false, decide_true])) | fail)
      all_goals (try omega)
  · rw [if_neg h]
    refine PCalls.of_aw Tryz.func58 rfl (by unfold Callable; kernel_rfl) (by kernel_rfl) (by simp [Tryz.ntmps58]) ?_; rw [Tryz.ntmps58, Tryz.results58]; (simp (disch := first | exact dq | fail) only [go_sem])
    (repeat' first
  | ((with_reducible first | refine Nx.go ?_ | refine rP ?_ | refine rR ?_ | refine And.intro ?_ ?_ | refine aw_rounds 64 ?_ | refine awN_step ?_ | fail) <;> try (simp (disch := first | exact dq | fail) only [go_sem, eq_false h, decide_false, decide_true]))
  | ((with_reducible refine Sp.go ?_ ?_) <;> intro h <;> (try (simp (disch := first | exact dq | fail) only [go_sem] at h)) <;> try (simp (disch := first | exact dq | fail) only [go_sem, h, eq_false h, decide_false, decide_true])) | fail)
    all_goals (try omega)
def cmpH (a b : Hea) : Int := if a.w < b.w then -1 else if b.w < a.w then 1 else if a.n < b.n then -1 else if b.n < a.n then 1 else 0
theorem cmpH_lt (a b : Hea) : cmpH a b < 0 ↔ ltH a b := by
  unfold cmpH ltH
  repeat' split
  all_goals omega
end Go.Proofs.YtpjncojljamacaaGreat.AM
