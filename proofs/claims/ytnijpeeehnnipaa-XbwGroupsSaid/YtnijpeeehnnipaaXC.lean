
/- Chapter 13's document: with. No condition but lengths that fit. -/
import Derived.Test.YtnijpeeehnnipaaXB
set_option linter.unusedVariables false
set_option linter.unusedSimpArgs false
set_option maxRecDepth 20000
namespace Go.Proofs.Ytnijpeeehnnipaa.AM
open Go Go.RowKit

theorem stV_eq (s : Str) : stV s = .str (bs s) := rfl
set_option maxHeartbeats 1000000 in
theorem with_spec (l : List Str) (s : Str) (hl : l.length ≤ 1000000) : PCalls Try.prog 42 [strsV l, stV s] (strsV (withF l s)) := by
  unfold strsV
  refine PCalls.of_aw Try.func42 rfl (by unfold Callable; kernel_rfl) (by kernel_rfl) (by simp [Try.ntmps42]) ?_; rw [Try.ntmps42, Try.results42]; (simp (maxSteps := 1000000) (disch := first | exact dq | fail) only [go_sem, stV_eq])
  (repeat' (first | refine Nx.go ?_ | fail) <;> try (simp (maxSteps := 1000000) (disch := first | exact dq | fail) only [go_sem]))
  refine aw_loop (α := Nat × List Str × Bool) (fun x => ⟨49, sl [(0, .iv (.sl 1 (l.map stV))), (1, .iv (.str (bs s))), (5, .msl 0 0 x.2.1.length x.2.1.length), (6, .iv (.bool x.2.2)), (7, .iv (.int .i64 x.1))], [.row true 9 1 (x.2.1.map stV)], 0⟩)
    (fun x => x.1 ≤ l.length ∧ x.2.1.length ≤ x.1 + (if x.2.2 = true then 1 else 0) ∧ (∀ j, j < x.1 → l.getD j [] ≠ s) ∧ x.2.1 ++ (if x.2.2 = true then l.drop x.1 else withG s (l.drop x.1)) = withG s l) (fun x => l.length - x.1) (0, [], false) (wk_by [1] ?_) ⟨Nat.zero_le _, by simp, fun j hj => absurd hj (Nat.not_lt_zero _), by simp⟩ ?_
  · (simp (maxSteps := 1000000) (disch := first | exact dq | fail) only [go_sem])
    try exact ⟨rfl, rfl⟩
  rintro ⟨i, out, put⟩ ⟨hi, hol, hno, he⟩
  dsimp only at hi hol hno he
  have htk : List.take out.length (List.map stV out) = List.map stV out := List.take_of_length_le (by simp)
  by_cases g : i < l.length
  · have g1 : (i : Int) < l.length := by omega
    have hg := getS g
    have hd : l.drop i = l.getD i [] :: l.drop (i + 1) := by
      rw [List.drop_eq_getElem_cons g]
      simp [List.getD, List.getElem?_eq_getElem g]
    have hno2 : l.getD i [] ≠ s → ∀ j, j < i + 1 → l.getD j [] ≠ s := fun h j hj => by
      by_cases ej : j = i
      · subst ej; exact h
      · exact hno j (by omega)
    have hmem : l.getD i [] ∈ l := by simp [List.getD, List.getElem?_eq_getElem g]
    rw [hd] at he
    generalize l.getD i [] = x at *
    by_cases e : x = s
    · have hw : withF l s = l := by unfold withF; rw [if_pos (e ▸ hmem)]
      rw [hw]
      (repeat' (with_reducible first | refine Nx.go ?_ | refine And.intro ?_ ?_ | fail) <;> try (simp (maxSteps := 1000000) (disch := first | exact dq | fail) only [go_sem, g1, hg, stV_eq x, eq_true e, decide_true]))
      all_goals (try omega)
    · have hno3 := hno2 e
      cases put with
      | true =>
        rw [if_pos rfl] at he hol
        (repeat' (with_reducible first | refine Nx.go ?_ | refine And.intro ?_ ?_ | fail) <;> try (simp (maxSteps := 1000000) (disch := first | exact dq | fail) only [go_sem, g1, hg, stV_eq x, eq_false e, decide_true, decide_false]))
        all_goals (try omega)
        refine ⟨(i + 1, out ++ [x], true), ⟨by dsimp only; omega, by dsimp only; rw [List.length_append, List.length_singleton, if_pos rfl]; omega, hno3, by dsimp only; rw [if_pos rfl, List.append_assoc]; exact he⟩, wk_by [0] ?_, by dsimp only; omega⟩
        (simp (maxSteps := 1000000) (disch := first | exact dq | fail) only [go_sem, List.map_append, stV_eq x])
      | false =>
        rw [if_neg (by decide)] at he hol
        cases hb : Op.bytesLess x s with
        | true =>
          rw [withG, if_neg (fun h => by rw [hb] at h; cases h.1)] at he
          (repeat' (with_reducible first | refine Nx.go ?_ | refine And.intro ?_ ?_ | fail) <;> try (simp (maxSteps := 1000000) (disch := first | exact dq | fail) only [go_sem, g1, hg, stV_eq x, eq_false e, hb, decide_true, decide_false, Bool.true_or, Bool.or_false, Bool.not_true]))
          all_goals (try omega)
          refine ⟨(i + 1, out ++ [x], false), ⟨by dsimp only; omega, by dsimp only; rw [List.length_append, List.length_singleton, if_neg (by decide)]; omega, hno3, by dsimp only; rw [if_neg (by decide), List.append_assoc]; exact he⟩, wk_by [0] ?_, by dsimp only; omega⟩
          (simp (maxSteps := 1000000) (disch := first | exact dq | fail) only [go_sem, List.map_append, stV_eq x])
        | false =>
          rw [withG, if_pos ⟨hb, e⟩] at he
          (repeat' (with_reducible first | refine Nx.go ?_ | refine And.intro ?_ ?_ | fail) <;> try (simp (maxSteps := 1000000) (disch := first | exact dq | fail) only [go_sem, g1, hg, stV_eq x, eq_false e, hb, decide_true, decide_false, Bool.or_false, Bool.not_false]))
          all_goals (try omega)
          refine ⟨(i + 1, out ++ [s, x], true), ⟨by dsimp only; omega, by dsimp only; rw [List.length_append, if_pos rfl]; simp; omega, hno3, by dsimp only; rw [if_pos rfl, List.append_assoc]; exact he⟩, wk_by [0] ?_, by dsimp only; omega⟩
          (simp (maxSteps := 1000000) (disch := first | exact dq | fail) only [go_sem, List.map_append, stV_eq x, stV_eq s, List.length_append])
          try exact ⟨rfl, rfl⟩
  · obtain rfl : i = l.length := by omega
    have g1 : ¬ (l.length : Int) < l.length := by omega
    have hm : s ∉ l := by
      intro hm
      obtain ⟨j, hj, rfl⟩ := List.getElem_of_mem hm
      exact hno j hj (by simp [List.getD, List.getElem?_eq_getElem hj])
    have hw : withF l s = withG s l := by unfold withF; rw [if_neg hm]
    rw [hw]
    rw [List.drop_length] at he
    cases put with
    | true =>
      rw [if_pos rfl, List.append_nil] at he
      rw [← he]
      (repeat' (first | refine Nx.go ?_ | fail) <;> try (simp (maxSteps := 1000000) (disch := first | exact dq | fail) only [go_sem, g1, decide_false, htk, Nat.le_refl, if_true]))
      all_goals (try omega)
    | false =>
      rw [if_neg (by decide), withG] at he
      rw [← he]
      have htk2 : ∀ z : IV, List.take (out.length + 1) (List.map stV out ++ [z]) = List.map stV out ++ [z] := fun z => List.take_of_length_le (by simp)
      rw [if_neg (by decide)] at hol
      (repeat' (with_reducible first | refine Nx.go ?_ | refine And.intro ?_ ?_ | fail) <;> try (simp (maxSteps := 1000000) (disch := first | exact dq | fail) only [go_sem, g1, decide_false, htk2, Nat.le_refl, if_true, List.map_append, stV_eq s]))
      all_goals (try omega)
end Go.Proofs.Ytnijpeeehnnipaa.AM
