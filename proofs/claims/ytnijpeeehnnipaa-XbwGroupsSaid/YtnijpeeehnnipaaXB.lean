
/- Chapter 13's document: spaces, texts, with, Number. No condition but lengths that fit. -/
import Derived.Test.YtnijpeeehnnipaaX9
set_option linter.unusedVariables false
set_option linter.unusedSimpArgs false
set_option maxRecDepth 20000
namespace Go.Proofs.Ytnijpeeehnnipaa.AM
open Go Go.RowKit

def spcF (s : Str) : Bool := decide (skipF s 0 = s.length)
theorem spaces_spec (s : Str) (hs : s.length ≤ 1000000000000) : PCalls Try.prog 31 [stV s] (.bool (spcF s)) := by
  have k := SkipL_spec s 0 hs (Nat.zero_le _)
  unfold spcF stV at *
  generalize skipF s 0 = n at *
  refine PCalls.of_aw Try.func31 rfl (by unfold Callable; kernel_rfl) (by kernel_rfl) (by simp [Try.ntmps31]) ?_; rw [Try.ntmps31, Try.results31]; (simp (disch := first | exact dq | fail) only [go_sem])
  (repeat' (first | refine Nx.go ?_ | fail) <;> try (simp (disch := first | exact dq | fail) only [go_sem]))
  ((with_reducible first | apply left_callf | apply leftD_callf | apply leftF_callf); (· with_reducible rfl); (· (simp (disch := first | exact dq | fail) only [go_sem]) <;> rfl); (· exact k); try (simp (disch := first | exact dq | fail) only [go_sem]))
  (repeat' (first | refine Nx.go ?_ | fail) <;> try (simp (disch := first | exact dq | fail) only [go_sem]))
  all_goals (first | (exfalso; omega) | exact congrArg (fun b => some (IV.bool b)) (Bool.eq_iff_iff.2 (by simp only [Bool.and_eq_true, Bool.or_eq_true, decide_eq_true_eq, Bool.false_eq_true, Bool.not_eq_true', decide_eq_false_iff_not, true_iff, false_iff, iff_true, iff_false, eq_self]; omega)) | exact congrArg (fun b => AV.iv (IV.bool b)) (Bool.eq_iff_iff.2 (by simp only [Bool.and_eq_true, Bool.or_eq_true, decide_eq_true_eq, Bool.false_eq_true, Bool.not_eq_true', decide_eq_false_iff_not, true_iff, false_iff, iff_true, iff_false, eq_self]; omega)))
def strsV (l : List Str) : IV := .sl 1 (l.map stV)
theorem txtG_more (l : List Tk) : ∀ f i s, l.length ≤ f + i → txtG l f i s = txtG l (f + 1) i s
  | 0, i, s, h => by rw [txtG, txtG, if_neg (fun h2 => by omega)]
  | f + 1, i, s, h => by
    rw [txtG]
    conv => rhs; rw [txtG]
    by_cases c : i < l.length ∧ ((l.getD i tk0).kind = 6 ∨ (l.getD i tk0).kind = 7)
    · rw [if_pos c, if_pos c]
      exact txtG_more l f (i + 1) _ (by omega)
    · rw [if_neg c, if_neg c]
theorem txtG_any (l : List Tk) {f i : Nat} {s : Str} (h : l.length ≤ f + i) : ∀ d, txtG l (f + d) i s = txtG l f i s
  | 0 => rfl
  | d + 1 => by rw [← Nat.add_assoc, ← txtG_more l (f + d) i s (by omega)]; exact txtG_any l h d
def Shrt (l : List Tk) : Prop := l.length ≤ 100000000 ∧ ∀ t ∈ l, t.val.length ≤ 1000000
theorem getT {l : List Tk} {i : Nat} (h : i < l.length) : l[i]? = some (l.getD i tk0) := by simp [List.getD, List.getElem?_eq_getElem h]
theorem memT {l : List Tk} {i : Nat} (h : i < l.length) : l.getD i tk0 ∈ l := by simp [List.getD, List.getElem?_eq_getElem h]
set_option maxHeartbeats 1000000 in
theorem texts_spec (l : List Tk) (i0 : Nat) (hl : Shrt l) (hi0 : i0 ≤ l.length) : PCalls Try.prog 30 [tksV l, .int .i64 i0] (.tup [stV (txtF l i0).1, .int .i64 (txtF l i0).2]) := by
  obtain ⟨hl1, hl2⟩ := hl
  unfold txtF tksV stV
  generalize hT : txtG l l.length i0 [] = T
  refine PCalls.of_aw Try.func30 rfl (by unfold Callable; kernel_rfl) (by kernel_rfl) (by simp [Try.ntmps30]) ?_; rw [Try.ntmps30, Try.results30]; (simp (maxSteps := 1000000) (disch := first | exact dq | fail) only [go_sem])
  (repeat' (first | refine Nx.go ?_ | fail) <;> try (simp (maxSteps := 1000000) (disch := first | exact dq | fail) only [go_sem]))
  refine aw_loop (α := Nat × Str) (fun x => ⟨44, sl [(0, .iv (.sl 5 (l.map tkV))), (1, .iv (.int .i64 x.1)), (6, .iv (.str (bs x.2)))], [], 0⟩)
    (fun x => x.1 ≤ l.length ∧ x.2.length ≤ 1000000 * x.1 ∧ txtG l (l.length - x.1) x.1 x.2 = T) (fun x => l.length - x.1) (i0, []) (wk_by [] ?_) ⟨hi0, Nat.zero_le _, ?_⟩ ?_
  · (simp (maxSteps := 1000000) (disch := first | exact dq | fail) only [go_sem])
    try rfl
  · dsimp only
    rw [← hT]
    have := txtG_any l (f := l.length - i0) (i := i0) (s := []) (by omega) i0
    rw [show l.length - i0 + i0 = l.length by omega] at this
    exact this.symm
  rintro ⟨i, s⟩ ⟨hi, hsl, he⟩
  dsimp only at hi hsl he
  rw [← he]
  clear hT
  by_cases g : i < l.length
  · have g1 : (i : Int) < l.length := by omega
    have hg := getT g
    have hv := hl2 _ (memT g)
    obtain ⟨f, hf⟩ : ∃ f, l.length - i = f + 1 := ⟨l.length - i - 1, by omega⟩
    have hf2 : l.length - (i + 1) = f := by omega
    rw [hf, txtG]
    generalize l.getD i tk0 = t at *
    have ht : tkV t = .agg [.int .i64 t.kind, .int .i64 t.fr, .int .i64 t.to, .str (bs t.name), .str (bs t.val)] := rfl
    by_cases c6 : t.kind = 6
    · rw [if_pos ⟨g, .inl c6⟩, if_pos c6]
      (repeat' (with_reducible first | refine Nx.go ?_ | refine And.intro ?_ ?_ | fail) <;> try (simp (maxSteps := 1000000) (disch := first | exact dq | fail) only [go_sem, g1, hg, ht, eq_true c6, decide_true]))
      all_goals (try omega)
      refine ⟨(i + 1, s ++ t.val), ⟨by dsimp only; omega, by dsimp only; rw [List.length_append]; omega, by dsimp only; rw [hf2]⟩, wk_by [] ?_, by dsimp only; omega⟩
      (simp (maxSteps := 1000000) (disch := first | exact dq | fail) only [go_sem])
    · by_cases c7 : t.kind = 7
      · rw [if_pos ⟨g, .inr c7⟩, if_neg c6]
        (repeat' (with_reducible first | refine Nx.go ?_ | refine And.intro ?_ ?_ | fail) <;> try (simp (maxSteps := 1000000) (disch := first | exact dq | fail) only [go_sem, g1, hg, ht, eq_false c6, eq_true c7, decide_true, decide_false]))
        all_goals (try omega)
        refine ⟨(i + 1, s), ⟨by dsimp only; omega, by dsimp only; omega, by dsimp only; rw [hf2]⟩, wk_by [] ?_, by dsimp only; omega⟩
        (simp (maxSteps := 1000000) (disch := first | exact dq | fail) only [go_sem])
      · rw [if_neg (fun h => by rcases h.2 with h | h; exact c6 h; exact c7 h)]
        (repeat' (with_reducible first | refine Nx.go ?_ | refine And.intro ?_ ?_ | fail) <;> try (simp (maxSteps := 1000000) (disch := first | exact dq | fail) only [go_sem, g1, hg, ht, eq_false c6, eq_false c7, decide_true, decide_false]))
        all_goals (try omega)
  · obtain rfl : i = l.length := by omega
    have g1 : ¬ (l.length : Int) < l.length := by omega
    rw [Nat.sub_self, txtG]
    (repeat' (first | refine Nx.go ?_ | fail) <;> try (simp (maxSteps := 1000000) (disch := first | exact dq | fail) only [go_sem, g1, decide_false]))
    all_goals (try omega)
theorem getS {l : List Str} {i : Nat} (h : i < l.length) : l[i]? = some (l.getD i []) := by simp [List.getD, List.getElem?_eq_getElem h]
theorem NumbS_spec (l : List Str) (s : Str) (hl : l.length ≤ 100000000) : PCalls Try.prog 43 [strsV l, stV s] (.int .i64 (numbF l s)) := by
  have key : ∀ i, i ≤ l.length → (∀ j, j < i → l.getD j [] ≠ s) → (i < l.length → l.getD i [] = s → numbF l s = i) ∧ (i = l.length → numbF l s = -1) := by
    intro i hi hno
    refine ⟨fun h1 h2 => ?_, fun h1 => ?_⟩
    · have hm : s ∈ l := by rw [← h2]; simp [List.getD, List.getElem?_eq_getElem h1]
      unfold numbF
      rw [if_pos hm]
      have h3 := List.idxOf_lt_length_of_mem hm
      have h4 : l[l.idxOf s] = s := List.getElem_idxOf h3
      have h5 : ¬ l.idxOf s < i := fun h => hno _ h (by simp [List.getD, List.getElem?_eq_getElem h3, h4])
      have h6 : ¬ i < l.idxOf s := fun h => by
        have := List.not_of_lt_findIdx (p := (· == s)) (xs := l) (i := i) h
        have e : l[i] = s := by have : l.getD i [] = l[i] := by simp [List.getD, List.getElem?_eq_getElem h1]
                                rw [← this]; exact h2
        simp [e] at this
      omega
    · unfold numbF
      rw [if_neg]
      intro hm
      obtain ⟨j, hj, rfl⟩ := List.getElem_of_mem hm
      exact hno j (by omega) (by simp [List.getD, List.getElem?_eq_getElem hj])
  unfold strsV stV
  refine PCalls.of_aw Try.func43 rfl (by unfold Callable; kernel_rfl) (by kernel_rfl) (by simp [Try.ntmps43]) ?_; rw [Try.ntmps43, Try.results43]; (simp (disch := first | exact dq | fail) only [go_sem])
  (repeat' (first | refine Nx.go ?_ | fail) <;> try (simp (disch := first | exact dq | fail) only [go_sem]))
  refine aw_loop (α := Nat) (fun i => ⟨19, sl [(0, .iv (.sl 1 (l.map fun s => IV.str (bs s)))), (1, .iv (.str (bs s))), (5, .iv (.int .i64 i))], [], 0⟩)
    (fun i => i ≤ l.length ∧ ∀ j, j < i → l.getD j [] ≠ s) (fun i => l.length - i) 0 (wk_by [] ?_) ⟨by omega, fun j hj => by omega⟩ ?_
  · (simp (disch := first | exact dq | fail) only [go_sem])
    try rfl
  rintro i ⟨hi, hno⟩
  obtain ⟨q1, q2⟩ := key i hi hno
  by_cases g : i < l.length
  · have g1 : (i : Int) < l.length := by omega
    have hg := getS g
    by_cases e : l.getD i [] = s
    · rw [q1 g e]
      (repeat' (with_reducible first | refine Nx.go ?_ | refine And.intro ?_ ?_ | fail) <;> try (simp (disch := first | exact dq | fail) only [go_sem, g1, hg, eq_true e, decide_true]))
      all_goals (try omega)
    · (repeat' (with_reducible first | refine Nx.go ?_ | refine And.intro ?_ ?_ | fail) <;> try (simp (disch := first | exact dq | fail) only [go_sem, g1, hg, eq_false e, decide_true, decide_false]))
      all_goals (try omega)
      refine ⟨i + 1, ⟨by omega, fun j hj => ?_⟩, wk_by [] ?_, by omega⟩
      · by_cases ej : j = i
        · subst ej; exact e
        · exact hno j (by omega)
      · (simp (disch := first | exact dq | fail) only [go_sem])
  · obtain rfl : i = l.length := by omega
    have g1 : ¬ (l.length : Int) < l.length := by omega
    rw [q2 rfl]
    (repeat' (first | refine Nx.go ?_ | fail) <;> try (simp (disch := first | exact dq | fail) only [go_sem, g1, decide_false]))
    all_goals (try omega)
end Go.Proofs.Ytnijpeeehnnipaa.AM
