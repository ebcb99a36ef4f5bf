
/- Chapter 7: Array. Chapter 7: Array of no numbers. Chapter 7: the document's Less. No condition but lengths that fit. Chapter 7: plain facts: where a suffix is put, what two rows begin with alike, search. No condition. Chapter 7: the document's Array. No condition but lengths that fit. -/
import Derived.Test.YtnijpeeehnnipaaSB
import Derived.Test.YtnijpeeehnnipaaQC

set_option linter.unusedVariables false
set_option linter.unusedSimpArgs false
set_option maxRecDepth 20000
namespace Go.Proofs.Ytnijpeeehnnipaa.AM
open Go Go.RowKit

end Go.Proofs.Ytnijpeeehnnipaa.AM

set_option linter.unusedVariables false
set_option linter.unusedSimpArgs false
set_option maxRecDepth 20000
namespace Go.Proofs.Ytnijpeeehnnipaa.AM
open Go Go.RowKit

end Go.Proofs.Ytnijpeeehnnipaa.AM

set_option linter.unusedVariables false
set_option linter.unusedSimpArgs false
set_option maxRecDepth 20000
namespace Go.Proofs.Ytnijpeeehnnipaa.AM
open Go Go.RowKit

theorem wl_end (a b : List Int) (h : a = [] ∨ b = []) : wl a b = decide (a.length < b.length) := by
  rcases h with h | h
  · subst h; cases b <;> simp [wl]
  · subst h; cases a <;> simp [wl]
set_option maxHeartbeats 4000000 in
theorem RefLess7_spec (a b : List Int) (ha : a.length ≤ 1000000) (hb : b.length ≤ 1000000) : PCalls Try.prog 21 [inl a, inl b] (.bool (wl a b)) := by
  refine PCalls.of_aw Try.func21 rfl (by unfold Callable; kernel_rfl) (by kernel_rfl) (by simp [Try.ntmps21]) ?_; rw [Try.ntmps21, Try.results21]; (simp (maxSteps := 1000000) (disch := first | exact dq | fail) only [go_sem])
  (repeat' (first | refine Nx.go ?_ | fail) <;> try (simp (maxSteps := 1000000) (disch := first | exact dq | fail) only [go_sem]))
  refine aw_loop (α := Nat) (fun i => ⟨41, sl [(0, .iv (inl a)), (1, .iv (inl b)), (5, .iv (.int .i64 i))], [], 0⟩)
    (fun i => i ≤ a.length ∧ i ≤ b.length ∧ wl (a.drop i) (b.drop i) = wl a b) (fun i => a.length - i) 0 (wk_by [] ?_) ⟨by omega, by omega, rfl⟩ ?_
  · (simp (maxSteps := 1000000) (disch := first | exact dq | fail) only [go_sem])
  rintro i ⟨hi, hib, he⟩
  rw [← he]
  by_cases h : i < a.length ∧ i < b.length
  · obtain ⟨h1, h2⟩ := h
    have da := List.drop_eq_getElem_cons h1
    have db := List.drop_eq_getElem_cons h2
    have ga := getD_el h1
    have gb := getD_el h2
    have hc1 : (i : Int) < a.length := by omega
    have hc2 : (i : Int) < b.length := by omega
    by_cases g : a[i] = b[i]
    · (repeat' (with_reducible first | refine Nx.go ?_ | refine rP ?_ | refine And.intro ?_ ?_ | fail) <;> try (simp (maxSteps := 1000000) (disch := first | exact dq | fail) only [go_sem, ga, gb, hc1, hc2, g, decide_true, decide_false]))
      all_goals (try omega)
      refine ⟨i + 1, ⟨by omega, by omega, ?_⟩, wk_by [] ?_, by omega⟩
      · rw [da, db, wl, g, if_neg (Int.lt_irrefl _), if_neg (Int.lt_irrefl _)]
      · (simp (maxSteps := 1000000) (disch := first | exact dq | fail) only [go_sem])
    · (repeat' (with_reducible first | refine Nx.go ?_ | refine rP ?_ | refine And.intro ?_ ?_ | fail) <;> try (simp (maxSteps := 1000000) (disch := first | exact dq | fail) only [go_sem, ga, gb, hc1, hc2, g, decide_true, decide_false]))
      all_goals (try omega)
      rw [da, db, wl]
      by_cases g1 : a[i] < b[i]
      · rw [if_pos g1, decide_eq_true g1]
      · rw [if_neg g1, if_pos (by omega), decide_eq_false g1]
  · have hw := wl_end (a.drop i) (b.drop i) (by
      by_cases h1 : i < a.length
      · exact .inr (List.drop_of_length_le (by omega))
      · exact .inl (List.drop_of_length_le (by omega)))
    have hd : decide ((a.drop i).length < (b.drop i).length) = decide ((a.length : Int) < b.length) := by
      rw [Bool.eq_iff_iff, decide_eq_true_iff, decide_eq_true_iff, List.length_drop, List.length_drop]; omega
    rw [hw, hd]
    by_cases h1 : i < a.length
    · have hc1 : (i : Int) < a.length := by omega
      have hc2 : ¬ ((i : Int) < b.length) := by omega
      (repeat' (first | refine Nx.go ?_ | fail) <;> try (simp (maxSteps := 1000000) (disch := first | exact dq | fail) only [go_sem, hc1, hc2, decide_true, decide_false]))
      all_goals (try omega)
    · have hc1 : ¬ ((i : Int) < a.length) := by omega
      (repeat' (first | refine Nx.go ?_ | fail) <;> try (simp (maxSteps := 1000000) (disch := first | exact dq | fail) only [go_sem, hc1, decide_false]))
      all_goals (try omega)
end Go.Proofs.Ytnijpeeehnnipaa.AM

set_option linter.unusedVariables false
set_option linter.unusedSimpArgs false
set_option maxRecDepth 20000
namespace Go.Proofs.Ytnijpeeehnnipaa.AM
open Go Go.RowKit

end Go.Proofs.Ytnijpeeehnnipaa.AM

set_option linter.unusedVariables false
set_option linter.unusedSimpArgs false
set_option maxRecDepth 20000
namespace Go.Proofs.Ytnijpeeehnnipaa.AM
open Go Go.RowKit

end Go.Proofs.Ytnijpeeehnnipaa.AM
