
/- slices.Backward of a row of levels (two rows of numbers each). Chapter 7: small functions. No condition but lengths that fit. Chapter 7: which of two suffixes comes first. Chapter 7: a level's end. Chapter 7: where the way down ends, and that ranks have the order of the numbers, plainly. Chapter 7: the order of suffixes as a list; slices.Backward; ranks in a row of one's own. -/
import Derived.RangeFuncBound
import Derived.RangeFuncCalls
import Derived.RangeFuncLeaves
import Derived.Shelf.Abstract
import Derived.Shelf.RegionOpen
import Derived.WalkKit
import Derived.OwnWalkIn
import Derived.TacticsInMore
import Derived.LoopNIn
import Derived.LoopIn
import Derived.Test.YtnijpeeehnnipaaAD
import Derived.Test.YtnijpeeehnnipaaGG
import Derived.Test.YtnijpeeehnnipaaQC
import Derived.Test.YtnijpeeehnnipaaSA

set_option linter.unusedVariables false
set_option linter.unusedSimpArgs false
set_option maxRecDepth 100000
namespace Go.Proofs.Ytnijpeeehnnipaa.AM
open Go Go.RowKit Go.Shelf

section
attribute [local go_sem] Oper.semAt_some
end

end Go.Proofs.Ytnijpeeehnnipaa.AM

set_option linter.unusedVariables false
set_option linter.unusedSimpArgs false
set_option maxRecDepth 20000
namespace Go.Proofs.Ytnijpeeehnnipaa.AM
open Go Go.RowKit

def mxF (f : Nat → Int) : Nat → Int
  | 0 => f 0
  | i + 1 => max (mxF f i) (f (i + 1))
theorem Max_spec (l : List Int) (h0 : 0 < l.length) (hl : l.length ≤ 1000000) : PCalls Try.prog 49 [inl l] (.int .i64 (mxF (fun i => l.getD i 0) (l.length - 1))) := by
  have hc : ¬ ((l.length : Int) < 1) := by omega
  refine PCalls.of_aw Try.func49 rfl (by unfold Callable; kernel_rfl) (by kernel_rfl) (by simp [Try.ntmps49]) ?_; rw [Try.ntmps49, Try.results49]; (simp (disch := first | exact dq | fail) only [go_sem])
  (repeat' (with_reducible first | refine Nx.go ?_ | refine And.intro ?_ ?_ | fail) <;> try (simp (disch := first | exact dq | fail) only [go_sem, hc, decide_false]))
  all_goals (try omega)
  refine aw_loop (α := Nat) (fun i => ⟨25, sl [(0, .iv (inl l)), (3, .iv (.int .i64 (mxF (fun i => l.getD i 0) i))), (4, .iv (.int .i64 ((i + 1 : Nat) : Int)))], [], 0⟩)
    (fun i => i < l.length) (fun i => l.length - i) 0 (wk_by [] ?_) h0 ?_
  · (simp (disch := first | exact dq | fail) only [go_sem])
    rfl
  rintro i hi
  by_cases h : i + 1 < l.length
  · have hc2 : ((i + 1 : Nat) : Int) < l.length := by omega
    (repeat' first
  | ((with_reducible first | refine Nx.go ?_ | refine And.intro ?_ ?_ | fail) <;> try (simp (disch := first | exact dq | fail) only [go_sem, hc2, decide_true]))
  | ((with_reducible refine Sp.go ?_ ?_) <;> intro h <;> (try (simp (disch := first | exact dq | fail) only [go_sem] at h)) <;> try (simp (disch := first | exact dq | fail) only [go_sem, h, hc2, decide_true])) | fail)
    all_goals (try omega)
    refine ⟨i + 1, by omega, wk_by [] ?_, by omega⟩
    (simp (disch := first | exact dq | fail) only [go_sem])
    rw [show ((i : Int) + 1).toNat = i + 1 from by omega, mxF]
  · have hc2 : ¬ (((i + 1 : Nat) : Int) < l.length) := by omega
    (repeat' first
  | ((with_reducible first | refine Nx.go ?_ | refine And.intro ?_ ?_ | fail) <;> try (simp (disch := first | exact dq | fail) only [go_sem, hc2, decide_false]))
  | ((with_reducible refine Sp.go ?_ ?_) <;> intro h <;> (try (simp (disch := first | exact dq | fail) only [go_sem] at h)) <;> try (simp (disch := first | exact dq | fail) only [go_sem, h, hc2, decide_false])) | fail)
    all_goals (try omega)
    rw [show i = l.length - 1 from by omega]
theorem cmp_spec (a b : Int) : PCalls Try.prog 52 [.int .i64 a, .int .i64 b] (.int .i64 (if a < b then -1 else if b < a then 1 else 0)) := by
  refine PCalls.of_aw Try.func52 rfl (by unfold Callable; kernel_rfl) (by kernel_rfl) (by simp [Try.ntmps52]) ?_; rw [Try.ntmps52, Try.results52]; (simp (disch := first | exact dq | fail) only [go_sem])
  (repeat' (first | refine Nx.go ?_ | fail) <;> try (simp (disch := first | exact dq | fail) only [go_sem]))
  ((with_reducible first | apply left_callf | apply leftD_callf | apply leftF_callf); (· with_reducible rfl); (· (simp (disch := first | exact dq | fail) only [go_sem]) <;> rfl); (· exact isNaNc_spec a); try (simp (disch := first | exact dq | fail) only [go_sem]))
  (repeat' (first | refine Nx.go ?_ | fail) <;> try (simp (disch := first | exact dq | fail) only [go_sem]))
  ((with_reducible first | apply left_callf | apply leftD_callf | apply leftF_callf); (· with_reducible rfl); (· (simp (disch := first | exact dq | fail) only [go_sem]) <;> rfl); (· exact isNaNc_spec b); try (simp (disch := first | exact dq | fail) only [go_sem]))
  (repeat' first
  | ((first | refine Nx.go ?_ | fail) <;> try (simp (disch := first | exact dq | fail) only [go_sem]))
  | ((with_reducible refine Sp.go ?_ ?_) <;> intro h <;> (try (simp (disch := first | exact dq | fail) only [go_sem] at h)) <;> try (simp (disch := first | exact dq | fail) only [go_sem, h])) | fail)
  · rw [if_pos h]
  · rename_i h1; rw [if_neg h1, if_pos h]
  · rename_i h1; rw [if_neg h1, if_neg h]
set_option maxHeartbeats 1000000 in
theorem Compare_spec (a b : List Int) (ha : a.length ≤ 1000000) (hb : b.length ≤ 1000000) : PCalls Try.prog 37 [inl a, inl b] (.int .i64 (cmpL a b)) := by
  refine PCalls.of_aw Try.func37 rfl (by unfold Callable; kernel_rfl) (by kernel_rfl) (by simp [Try.ntmps37]) ?_; rw [Try.ntmps37, Try.results37]; (simp (maxSteps := 1000000) (disch := first | exact dq | fail) only [go_sem])
  (repeat' (first | refine Nx.go ?_ | fail) <;> try (simp (maxSteps := 1000000) (disch := first | exact dq | fail) only [go_sem]))
  refine aw_loop (α := Nat) (fun i => ⟨36, sl [(0, .iv (inl a)), (1, .iv (inl b)), (9, .iv (inl a)), (10, .iv (.int .i64 a.length)), (11, .iv (.int .i64 i))], [], 0⟩)
    (fun i => i ≤ a.length ∧ i ≤ b.length ∧ cmpL (a.drop i) (b.drop i) = cmpL a b) (fun i => a.length - i) 0 (wk_by [] ?_) ⟨by omega, by omega, rfl⟩ ?_
  · (simp (maxSteps := 1000000) (disch := first | exact dq | fail) only [go_sem])
  rintro i ⟨hi, hib, he⟩
  rw [← he]
  by_cases h : i < a.length
  · have da := List.drop_eq_getElem_cons h
    have ga : a.getD i 0 = a[i] := by simp [List.getD, List.getElem?_eq_getElem h]
    by_cases h2 : i < b.length
    · have db := List.drop_eq_getElem_cons h2
      have gb : b.getD i 0 = b[i] := by simp [List.getD, List.getElem?_eq_getElem h2]
      have hc := cmp_spec a[i] b[i]
      have hc1 : ¬ ((b.length : Int) ≤ i) := by omega
      (repeat' first
  | ((with_reducible first | refine Nx.go ?_ | refine And.intro ?_ ?_ | fail) <;> try (simp (maxSteps := 1000000) (disch := first | exact dq | fail) only [go_sem, ga, gb, hc1, decide_false]))
  | ((with_reducible refine Sp.go ?_ ?_) <;> intro h <;> (try (simp (maxSteps := 1000000) (disch := first | exact dq | fail) only [go_sem] at h)) <;> try (simp (maxSteps := 1000000) (disch := first | exact dq | fail) only [go_sem, h, ga, gb, hc1, decide_false])) | fail)
      all_goals (try omega)
      ((with_reducible first | apply left_callf | apply leftD_callf | apply leftF_callf); (· with_reducible rfl); (· (simp (maxSteps := 1000000) (disch := first | exact dq | fail) only [go_sem]) <;> rfl); (· exact hc); try (simp (maxSteps := 1000000) (disch := first | exact dq | fail) only [go_sem]))
      by_cases g1 : a[i] < b[i]
      · rw [if_pos g1]
        (repeat' (first | refine Nx.go ?_ | fail) <;> try (simp (maxSteps := 1000000) (disch := first | exact dq | fail) only [go_sem, ga, gb, hc1, decide_false, decide_true]))
        all_goals (try omega)
        rw [da, db, cmpL, if_pos g1]
      · by_cases g2 : b[i] < a[i]
        · rw [if_neg g1, if_pos g2]
          (repeat' (first | refine Nx.go ?_ | fail) <;> try (simp (maxSteps := 1000000) (disch := first | exact dq | fail) only [go_sem, ga, gb, hc1, decide_false, decide_true]))
          all_goals (try omega)
          rw [da, db, cmpL, if_neg g1, if_pos g2]
        · rw [if_neg g1, if_neg g2]
          (repeat' (first | refine Nx.go ?_ | fail) <;> try (simp (maxSteps := 1000000) (disch := first | exact dq | fail) only [go_sem, ga, gb, hc1, decide_false, decide_true]))
          all_goals (try omega)
          refine ⟨i + 1, ⟨by omega, by omega, ?_⟩, wk_by [] ?_, by omega⟩
          · rw [da, db, cmpL, if_neg g1, if_neg g2]
          · (simp (maxSteps := 1000000) (disch := first | exact dq | fail) only [go_sem])
    · have hc1 : ((b.length : Int) ≤ i) := by omega
      (repeat' first
  | ((with_reducible first | refine Nx.go ?_ | refine And.intro ?_ ?_ | fail) <;> try (simp (maxSteps := 1000000) (disch := first | exact dq | fail) only [go_sem, ga, hc1, decide_true]))
  | ((with_reducible refine Sp.go ?_ ?_) <;> intro h <;> (try (simp (maxSteps := 1000000) (disch := first | exact dq | fail) only [go_sem] at h)) <;> try (simp (maxSteps := 1000000) (disch := first | exact dq | fail) only [go_sem, h, ga, hc1, decide_true])) | fail)
      all_goals (try omega)
      rw [da, List.drop_of_length_le (show b.length ≤ i by omega)]; rfl
  · have hda : a.drop i = [] := List.drop_of_length_le (by omega)
    by_cases h2 : i < b.length
    · have db := List.drop_eq_getElem_cons h2
      have hc1 : ((a.length : Int) < b.length) := by omega
      (repeat' first
  | ((with_reducible first | refine Nx.go ?_ | refine And.intro ?_ ?_ | fail) <;> try (simp (maxSteps := 1000000) (disch := first | exact dq | fail) only [go_sem, hc1, decide_true]))
  | ((with_reducible refine Sp.go ?_ ?_) <;> intro h <;> (try (simp (maxSteps := 1000000) (disch := first | exact dq | fail) only [go_sem] at h)) <;> try (simp (maxSteps := 1000000) (disch := first | exact dq | fail) only [go_sem, h, hc1, decide_true])) | fail)
      all_goals (try omega)
      rw [hda, db]; rfl
    · have hc1 : ¬ ((a.length : Int) < b.length) := by omega
      (repeat' first
  | ((with_reducible first | refine Nx.go ?_ | refine And.intro ?_ ?_ | fail) <;> try (simp (maxSteps := 1000000) (disch := first | exact dq | fail) only [go_sem, hc1, decide_false]))
  | ((with_reducible refine Sp.go ?_ ?_) <;> intro h <;> (try (simp (maxSteps := 1000000) (disch := first | exact dq | fail) only [go_sem] at h)) <;> try (simp (maxSteps := 1000000) (disch := first | exact dq | fail) only [go_sem, h, hc1, decide_false])) | fail)
      all_goals (try omega)
      rw [hda, List.drop_of_length_le (show b.length ≤ i by omega)]; rfl
end Go.Proofs.Ytnijpeeehnnipaa.AM

set_option linter.unusedVariables false
set_option linter.unusedSimpArgs false
set_option maxRecDepth 20000
namespace Go.Proofs.Ytnijpeeehnnipaa.AM
open Go Go.RowKit

end Go.Proofs.Ytnijpeeehnnipaa.AM

set_option linter.unusedVariables false
set_option linter.unusedSimpArgs false
set_option maxRecDepth 20000
namespace Go.Proofs.Ytnijpeeehnnipaa.AM
open Go Go.RowKit

end Go.Proofs.Ytnijpeeehnnipaa.AM

set_option linter.unusedVariables false
set_option linter.unusedSimpArgs false
set_option maxRecDepth 20000
namespace Go.Proofs.Ytnijpeeehnnipaa.AM
open Go Go.RowKit

theorem mxF_at (f : Nat → Int) : ∀ i, ∃ j, j ≤ i ∧ mxF f i = f j
  | 0 => ⟨0, Nat.le_refl _, rfl⟩
  | i + 1 => by
    obtain ⟨j, hj, e⟩ := mxF_at f i
    rw [mxF]
    by_cases h : mxF f i ≤ f (i + 1)
    · exact ⟨i + 1, Nat.le_refl _, by omega⟩
    · exact ⟨j, by omega, by omega⟩
theorem mxF_ge (f : Nat → Int) : ∀ i j, j ≤ i → f j ≤ mxF f i
  | 0, j, h => by
    have : j = 0 := by omega
    subst this; exact Int.le_refl _
  | i + 1, j, h => by
    rw [mxF]
    by_cases e : j = i + 1
    · subst e; omega
    · have := mxF_ge f i j (by omega); omega
end Go.Proofs.Ytnijpeeehnnipaa.AM

set_option linter.unusedVariables false
set_option linter.unusedSimpArgs false
set_option maxRecDepth 20000
namespace Go.Proofs.Ytnijpeeehnnipaa.AM
open Go Go.RowKit

end Go.Proofs.Ytnijpeeehnnipaa.AM
