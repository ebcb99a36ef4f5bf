
/- Chapter 12's document: piece, Lex. No condition but lengths that fit. -/
import Derived.Test.YtnijpeeehnnipaaX7
set_option linter.unusedVariables false
set_option linter.unusedSimpArgs false
set_option maxRecDepth 20000
namespace Go.Proofs.Ytnijpeeehnnipaa.AM
open Go Go.RowKit

set_option maxHeartbeats 4000000 in
theorem piece_spec (s : Str) (a : Nat) (hs : s.length ≤ 1000000) (ha : a ≤ s.length) : PCalls Try.prog 40 [stV s, .int .i64 a] (.tup [tksV (pieceF s a).1, .bool (pieceF s a).2]) := by
  have b1 := begins12_spec s a tC hs (by omega) (by decide)
  have b2 := begins12_spec s a tCD hs (by omega) (by decide)
  have b3 := begins12_spec s a [60, 47] hs (by omega) (by decide)
  have b4 := begins12_spec s a [60] hs (by omega) (by decide)
  unfold pieceF
  cases h1 : bgnF s a tC with
  | true =>
    have l1 : a + 4 ≤ s.length := bgnF_le h1
    rw [h1] at b1
    rw [if_pos rfl]
    have f1 := find_spec s (a + 4) [45, 45] hs (by omega) (by decide)
    have cf := findF_cases s [45, 45] (a + 4)
    rw [show ((a + 4 : Nat) : Int) = (a : Int) + 4 by omega] at f1
    have e3 : ((a : Int) + 4).toNat = a + 4 := by omega
    generalize findF s (a + 4) [45, 45] = F at *
    by_cases cF : F < 0
    · rw [if_pos (.inl cF)]
      unfold stV tksV tC at *
      refine PCalls.of_aw Try.func40 rfl (by unfold Callable; kernel_rfl) (by kernel_rfl) (by simp [Try.ntmps40]) ?_; rw [Try.ntmps40, Try.results40]; (simp (maxSteps := 1000000) (disch := first | exact dq | fail) only [go_sem])
      (repeat' (first | refine Nx.go ?_ | fail) <;> try (simp (maxSteps := 1000000) (disch := first | exact dq | fail) only [go_sem]))
      ((with_reducible first | apply left_callf | apply leftD_callf | apply leftF_callf); (· with_reducible rfl); (· (simp (maxSteps := 1000000) (disch := first | exact dq | fail) only [go_sem]) <;> rfl); (· exact b1); try (simp (maxSteps := 1000000) (disch := first | exact dq | fail) only [go_sem]))
      (repeat' (first | refine Nx.go ?_ | fail) <;> try (simp (maxSteps := 1000000) (disch := first | exact dq | fail) only [go_sem]))
      all_goals (try omega)
      ((with_reducible first | apply left_callf | apply leftD_callf | apply leftF_callf); (· with_reducible rfl); (· (simp (maxSteps := 1000000) (disch := first | exact dq | fail) only [go_sem]) <;> rfl); (· exact f1); try (simp (maxSteps := 1000000) (disch := first | exact dq | fail) only [go_sem]))
      (repeat' (first | refine Nx.go ?_ | fail) <;> try (simp (maxSteps := 1000000) (disch := first | exact dq | fail) only [go_sem, cF, decide_true]))
    obtain ⟨j, rfl⟩ : ∃ j : Nat, F = j := ⟨F.toNat, by omega⟩
    have cf2 := cf.resolve_left (by omega)
    have lj : a + 4 ≤ j ∧ j ≤ s.length := by
      have := cf2.2.1
      have : ([45, 45] : Str).length = 2 := rfl
      omega
    rw [Int.toNat_natCast]
    have b5 := begins12_spec s j [45, 45, 62] hs (by omega) (by decide)
    cases h5 : bgnF s j [45, 45, 62] with
    | false =>
      rw [h5] at b5
      rw [if_pos (.inr rfl)]
      unfold stV tksV tC at *
      refine PCalls.of_aw Try.func40 rfl (by unfold Callable; kernel_rfl) (by kernel_rfl) (by simp [Try.ntmps40]) ?_; rw [Try.ntmps40, Try.results40]; (simp (maxSteps := 1000000) (disch := first | exact dq | fail) only [go_sem])
      (repeat' (first | refine Nx.go ?_ | fail) <;> try (simp (maxSteps := 1000000) (disch := first | exact dq | fail) only [go_sem]))
      ((with_reducible first | apply left_callf | apply leftD_callf | apply leftF_callf); (· with_reducible rfl); (· (simp (maxSteps := 1000000) (disch := first | exact dq | fail) only [go_sem]) <;> rfl); (· exact b1); try (simp (maxSteps := 1000000) (disch := first | exact dq | fail) only [go_sem]))
      (repeat' (first | refine Nx.go ?_ | fail) <;> try (simp (maxSteps := 1000000) (disch := first | exact dq | fail) only [go_sem]))
      all_goals (try omega)
      ((with_reducible first | apply left_callf | apply leftD_callf | apply leftF_callf); (· with_reducible rfl); (· (simp (maxSteps := 1000000) (disch := first | exact dq | fail) only [go_sem]) <;> rfl); (· exact f1); try (simp (maxSteps := 1000000) (disch := first | exact dq | fail) only [go_sem]))
      (repeat' (first | refine Nx.go ?_ | fail) <;> try (simp (maxSteps := 1000000) (disch := first | exact dq | fail) only [go_sem, cF, decide_false]))
      ((with_reducible first | apply left_callf | apply leftD_callf | apply leftF_callf); (· with_reducible rfl); (· (simp (maxSteps := 1000000) (disch := first | exact dq | fail) only [go_sem]) <;> rfl); (· exact b5); try (simp (maxSteps := 1000000) (disch := first | exact dq | fail) only [go_sem]))
      (repeat' (first | refine Nx.go ?_ | fail) <;> try (simp (maxSteps := 1000000) (disch := first | exact dq | fail) only [go_sem]))
    | true =>
      rw [h5] at b5
      rw [if_neg (fun h => by rcases h with h | h; exact cF h; cases h)]
      unfold stV tksV tC sub at *
      refine PCalls.of_aw Try.func40 rfl (by unfold Callable; kernel_rfl) (by kernel_rfl) (by simp [Try.ntmps40]) ?_; rw [Try.ntmps40, Try.results40]; (simp (maxSteps := 1000000) (disch := first | exact dq | fail) only [go_sem])
      (repeat' (first | refine Nx.go ?_ | fail) <;> try (simp (maxSteps := 1000000) (disch := first | exact dq | fail) only [go_sem]))
      ((with_reducible first | apply left_callf | apply leftD_callf | apply leftF_callf); (· with_reducible rfl); (· (simp (maxSteps := 1000000) (disch := first | exact dq | fail) only [go_sem]) <;> rfl); (· exact b1); try (simp (maxSteps := 1000000) (disch := first | exact dq | fail) only [go_sem]))
      (repeat' (first | refine Nx.go ?_ | fail) <;> try (simp (maxSteps := 1000000) (disch := first | exact dq | fail) only [go_sem]))
      all_goals (try omega)
      ((with_reducible first | apply left_callf | apply leftD_callf | apply leftF_callf); (· with_reducible rfl); (· (simp (maxSteps := 1000000) (disch := first | exact dq | fail) only [go_sem]) <;> rfl); (· exact f1); try (simp (maxSteps := 1000000) (disch := first | exact dq | fail) only [go_sem]))
      (repeat' (first | refine Nx.go ?_ | fail) <;> try (simp (maxSteps := 1000000) (disch := first | exact dq | fail) only [go_sem, cF, decide_false]))
      ((with_reducible first | apply left_callf | apply leftD_callf | apply leftF_callf); (· with_reducible rfl); (· (simp (maxSteps := 1000000) (disch := first | exact dq | fail) only [go_sem]) <;> rfl); (· exact b5); try (simp (maxSteps := 1000000) (disch := first | exact dq | fail) only [go_sem]))
      (repeat' (with_reducible first | refine Nx.go ?_ | refine And.intro ?_ ?_ | fail) <;> try (simp (maxSteps := 1000000) (disch := first | exact dq | fail) only [go_sem, e3, tkV]))
      all_goals (try omega)
  | false =>
    rw [h1] at b1
    rw [if_neg (by decide)]
    cases h2 : bgnF s a tCD with
    | true =>
      have l1 : a + 9 ≤ s.length := bgnF_le h2
      rw [h2] at b2
      rw [if_pos rfl]
      have f1 := find_spec s (a + 9) [93, 93, 62] hs (by omega) (by decide)
      have cf := findF_cases s [93, 93, 62] (a + 9)
      rw [show ((a + 9 : Nat) : Int) = (a : Int) + 9 by omega] at f1
      have e3 : ((a : Int) + 9).toNat = a + 9 := by omega
      generalize findF s (a + 9) [93, 93, 62] = F at *
      by_cases cF : F < 0
      · rw [if_pos cF]
        unfold stV tksV tC tCD at *
        refine PCalls.of_aw Try.func40 rfl (by unfold Callable; kernel_rfl) (by kernel_rfl) (by simp [Try.ntmps40]) ?_; rw [Try.ntmps40, Try.results40]; (simp (maxSteps := 1000000) (disch := first | exact dq | fail) only [go_sem])
        (repeat' (first | refine Nx.go ?_ | fail) <;> try (simp (maxSteps := 1000000) (disch := first | exact dq | fail) only [go_sem]))
        ((with_reducible first | apply left_callf | apply leftD_callf | apply leftF_callf); (· with_reducible rfl); (· (simp (maxSteps := 1000000) (disch := first | exact dq | fail) only [go_sem]) <;> rfl); (· exact b1); try (simp (maxSteps := 1000000) (disch := first | exact dq | fail) only [go_sem]))
        (repeat' (first | refine Nx.go ?_ | fail) <;> try (simp (maxSteps := 1000000) (disch := first | exact dq | fail) only [go_sem]))
        ((with_reducible first | apply left_callf | apply leftD_callf | apply leftF_callf); (· with_reducible rfl); (· (simp (maxSteps := 1000000) (disch := first | exact dq | fail) only [go_sem]) <;> rfl); (· exact b2); try (simp (maxSteps := 1000000) (disch := first | exact dq | fail) only [go_sem]))
        (repeat' (first | refine Nx.go ?_ | fail) <;> try (simp (maxSteps := 1000000) (disch := first | exact dq | fail) only [go_sem]))
        all_goals (try omega)
        ((with_reducible first | apply left_callf | apply leftD_callf | apply leftF_callf); (· with_reducible rfl); (· (simp (maxSteps := 1000000) (disch := first | exact dq | fail) only [go_sem]) <;> rfl); (· exact f1); try (simp (maxSteps := 1000000) (disch := first | exact dq | fail) only [go_sem]))
        (repeat' (first | refine Nx.go ?_ | fail) <;> try (simp (maxSteps := 1000000) (disch := first | exact dq | fail) only [go_sem, cF, decide_true]))
      obtain ⟨j, rfl⟩ : ∃ j : Nat, F = j := ⟨F.toNat, by omega⟩
      have cf2 := cf.resolve_left (by omega)
      have lj : a + 9 ≤ j ∧ j ≤ s.length := by
        have := cf2.2.1
        have : ([93, 93, 62] : Str).length = 3 := rfl
        omega
      rw [if_neg cF, Int.toNat_natCast]
      unfold stV tksV tC tCD sub at *
      refine PCalls.of_aw Try.func40 rfl (by unfold Callable; kernel_rfl) (by kernel_rfl) (by simp [Try.ntmps40]) ?_; rw [Try.ntmps40, Try.results40]; (simp (maxSteps := 1000000) (disch := first | exact dq | fail) only [go_sem])
      (repeat' (first | refine Nx.go ?_ | fail) <;> try (simp (maxSteps := 1000000) (disch := first | exact dq | fail) only [go_sem]))
      ((with_reducible first | apply left_callf | apply leftD_callf | apply leftF_callf); (· with_reducible rfl); (· (simp (maxSteps := 1000000) (disch := first | exact dq | fail) only [go_sem]) <;> rfl); (· exact b1); try (simp (maxSteps := 1000000) (disch := first | exact dq | fail) only [go_sem]))
      (repeat' (first | refine Nx.go ?_ | fail) <;> try (simp (maxSteps := 1000000) (disch := first | exact dq | fail) only [go_sem]))
      ((with_reducible first | apply left_callf | apply leftD_callf | apply leftF_callf); (· with_reducible rfl); (· (simp (maxSteps := 1000000) (disch := first | exact dq | fail) only [go_sem]) <;> rfl); (· exact b2); try (simp (maxSteps := 1000000) (disch := first | exact dq | fail) only [go_sem]))
      (repeat' (first | refine Nx.go ?_ | fail) <;> try (simp (maxSteps := 1000000) (disch := first | exact dq | fail) only [go_sem]))
      all_goals (try omega)
      ((with_reducible first | apply left_callf | apply leftD_callf | apply leftF_callf); (· with_reducible rfl); (· (simp (maxSteps := 1000000) (disch := first | exact dq | fail) only [go_sem]) <;> rfl); (· exact f1); try (simp (maxSteps := 1000000) (disch := first | exact dq | fail) only [go_sem]))
      (repeat' (with_reducible first | refine Nx.go ?_ | refine And.intro ?_ ?_ | fail) <;> try (simp (maxSteps := 1000000) (disch := first | exact dq | fail) only [go_sem, cF, e3, tkV, decide_false]))
      all_goals (try omega)
    | false =>
      rw [h2] at b2
      rw [if_neg (by decide)]
      cases h3 : bgnF s a [60, 47] with
      | true =>
        have l1 : a + 2 ≤ s.length := bgnF_le h3
        rw [h3] at b3
        rw [if_pos rfl]
        have k1 := NameEnd_spec s (a + 2) hs l1
        have l2 := nameF_le s l1
        have e3 : ((a : Int) + 2).toNat = a + 2 := by omega
        rw [show ((a + 2 : Nat) : Int) = (a : Int) + 2 by omega] at k1
        generalize nameF s (a + 2) = e at *
        have k2 := Skip_spec s e hs (by omega)
        have l3 := skipF_le s (show e ≤ s.length by omega)
        generalize skipF s e = i at *
        have b5 := begins12_spec s i [62] hs (by omega) (by decide)
        by_cases c : e = a + 2
        · have c1 : ((e : Int) = a + 2) = True := eq_true (by omega)
          rw [if_pos (.inl c)]
          unfold stV tksV tC tCD at *
          refine PCalls.of_aw Try.func40 rfl (by unfold Callable; kernel_rfl) (by kernel_rfl) (by simp [Try.ntmps40]) ?_; rw [Try.ntmps40, Try.results40]; (simp (maxSteps := 1000000) (disch := first | exact dq | fail) only [go_sem])
          (repeat' (first | refine Nx.go ?_ | fail) <;> try (simp (maxSteps := 1000000) (disch := first | exact dq | fail) only [go_sem]))
          ((with_reducible first | apply left_callf | apply leftD_callf | apply leftF_callf); (· with_reducible rfl); (· (simp (maxSteps := 1000000) (disch := first | exact dq | fail) only [go_sem]) <;> rfl); (· exact b1); try (simp (maxSteps := 1000000) (disch := first | exact dq | fail) only [go_sem]))
          (repeat' (first | refine Nx.go ?_ | fail) <;> try (simp (maxSteps := 1000000) (disch := first | exact dq | fail) only [go_sem]))
          ((with_reducible first | apply left_callf | apply leftD_callf | apply leftF_callf); (· with_reducible rfl); (· (simp (maxSteps := 1000000) (disch := first | exact dq | fail) only [go_sem]) <;> rfl); (· exact b2); try (simp (maxSteps := 1000000) (disch := first | exact dq | fail) only [go_sem]))
          (repeat' (first | refine Nx.go ?_ | fail) <;> try (simp (maxSteps := 1000000) (disch := first | exact dq | fail) only [go_sem]))
          ((with_reducible first | apply left_callf | apply leftD_callf | apply leftF_callf); (· with_reducible rfl); (· (simp (maxSteps := 1000000) (disch := first | exact dq | fail) only [go_sem]) <;> rfl); (· exact b3); try (simp (maxSteps := 1000000) (disch := first | exact dq | fail) only [go_sem]))
          (repeat' (first | refine Nx.go ?_ | fail) <;> try (simp (maxSteps := 1000000) (disch := first | exact dq | fail) only [go_sem]))
          all_goals (try omega)
          ((with_reducible first | apply left_callf | apply leftD_callf | apply leftF_callf); (· with_reducible rfl); (· (simp (maxSteps := 1000000) (disch := first | exact dq | fail) only [go_sem]) <;> rfl); (· exact k1); try (simp (maxSteps := 1000000) (disch := first | exact dq | fail) only [go_sem]))
          (repeat' (first | refine Nx.go ?_ | fail) <;> try (simp (maxSteps := 1000000) (disch := first | exact dq | fail) only [go_sem]))
          ((with_reducible first | apply left_callf | apply leftD_callf | apply leftF_callf); (· with_reducible rfl); (· (simp (maxSteps := 1000000) (disch := first | exact dq | fail) only [go_sem]) <;> rfl); (· exact k2); try (simp (maxSteps := 1000000) (disch := first | exact dq | fail) only [go_sem]))
          (repeat' (first | refine Nx.go ?_ | fail) <;> try (simp (maxSteps := 1000000) (disch := first | exact dq | fail) only [go_sem, c1, decide_true]))
          all_goals (try omega)
        · have c1 : ((e : Int) = a + 2) = False := eq_false (by omega)
          cases h5 : bgnF s i [62] with
          | false =>
            rw [h5] at b5
            rw [if_pos (.inr rfl)]
            unfold stV tksV tC tCD at *
            refine PCalls.of_aw Try.func40 rfl (by unfold Callable; kernel_rfl) (by kernel_rfl) (by simp [Try.ntmps40]) ?_; rw [Try.ntmps40, Try.results40]; (simp (maxSteps := 1000000) (disch := first | exact dq | fail) only [go_sem])
            (repeat' (first | refine Nx.go ?_ | fail) <;> try (simp (maxSteps := 1000000) (disch := first | exact dq | fail) only [go_sem]))
            ((with_reducible first | apply left_callf | apply leftD_callf | apply leftF_callf); (· with_reducible rfl); (· (simp (maxSteps := 1000000) (disch := first | exact dq | fail) only [go_sem]) <;> rfl); (· exact b1); try (simp (maxSteps := 1000000) (disch := first | exact dq | fail) only [go_sem]))
            (repeat' (first | refine Nx.go ?_ | fail) <;> try (simp (maxSteps := 1000000) (disch := first | exact dq | fail) only [go_sem]))
            ((with_reducible first | apply left_callf | apply leftD_callf | apply leftF_callf); (· with_reducible rfl); (· (simp (maxSteps := 1000000) (disch := first | exact dq | fail) only [go_sem]) <;> rfl); (· exact b2); try (simp (maxSteps := 1000000) (disch := first | exact dq | fail) only [go_sem]))
            (repeat' (first | refine Nx.go ?_ | fail) <;> try (simp (maxSteps := 1000000) (disch := first | exact dq | fail) only [go_sem]))
            ((with_reducible first | apply left_callf | apply leftD_callf | apply leftF_callf); (· with_reducible rfl); (· (simp (maxSteps := 1000000) (disch := first | exact dq | fail) only [go_sem]) <;> rfl); (· exact b3); try (simp (maxSteps := 1000000) (disch := first | exact dq | fail) only [go_sem]))
            (repeat' (first | refine Nx.go ?_ | fail) <;> try (simp (maxSteps := 1000000) (disch := first | exact dq | fail) only [go_sem]))
            all_goals (try omega)
            ((with_reducible first | apply left_callf | apply leftD_callf | apply leftF_callf); (· with_reducible rfl); (· (simp (maxSteps := 1000000) (disch := first | exact dq | fail) only [go_sem]) <;> rfl); (· exact k1); try (simp (maxSteps := 1000000) (disch := first | exact dq | fail) only [go_sem]))
            (repeat' (first | refine Nx.go ?_ | fail) <;> try (simp (maxSteps := 1000000) (disch := first | exact dq | fail) only [go_sem]))
            ((with_reducible first | apply left_callf | apply leftD_callf | apply leftF_callf); (· with_reducible rfl); (· (simp (maxSteps := 1000000) (disch := first | exact dq | fail) only [go_sem]) <;> rfl); (· exact k2); try (simp (maxSteps := 1000000) (disch := first | exact dq | fail) only [go_sem]))
            (repeat' (first | refine Nx.go ?_ | fail) <;> try (simp (maxSteps := 1000000) (disch := first | exact dq | fail) only [go_sem, c1, decide_false]))
            all_goals (try omega)
            ((with_reducible first | apply left_callf | apply leftD_callf | apply leftF_callf); (· with_reducible rfl); (· (simp (maxSteps := 1000000) (disch := first | exact dq | fail) only [go_sem]) <;> rfl); (· exact b5); try (simp (maxSteps := 1000000) (disch := first | exact dq | fail) only [go_sem]))
            (repeat' (first | refine Nx.go ?_ | fail) <;> try (simp (maxSteps := 1000000) (disch := first | exact dq | fail) only [go_sem]))
          | true =>
            rw [h5] at b5
            rw [if_neg (fun h => by rcases h with h | h; exact c h; cases h)]
            unfold stV tksV tC tCD sub at *
            refine PCalls.of_aw Try.func40 rfl (by unfold Callable; kernel_rfl) (by kernel_rfl) (by simp [Try.ntmps40]) ?_; rw [Try.ntmps40, Try.results40]; (simp (maxSteps := 1000000) (disch := first | exact dq | fail) only [go_sem])
            (repeat' (first | refine Nx.go ?_ | fail) <;> try (simp (maxSteps := 1000000) (disch := first | exact dq | fail) only [go_sem]))
            ((with_reducible first | apply left_callf | apply leftD_callf | apply leftF_callf); (· with_reducible rfl); (· (simp (maxSteps := 1000000) (disch := first | exact dq | fail) only [go_sem]) <;> rfl); (· exact b1); try (simp (maxSteps := 1000000) (disch := first | exact dq | fail) only [go_sem]))
            (repeat' (first | refine Nx.go ?_ | fail) <;> try (simp (maxSteps := 1000000) (disch := first | exact dq | fail) only [go_sem]))
            ((with_reducible first | apply left_callf | apply leftD_callf | apply leftF_callf); (· with_reducible rfl); (· (simp (maxSteps := 1000000) (disch := first | exact dq | fail) only [go_sem]) <;> rfl); (· exact b2); try (simp (maxSteps := 1000000) (disch := first | exact dq | fail) only [go_sem]))
            (repeat' (first | refine Nx.go ?_ | fail) <;> try (simp (maxSteps := 1000000) (disch := first | exact dq | fail) only [go_sem]))
            ((with_reducible first | apply left_callf | apply leftD_callf | apply leftF_callf); (· with_reducible rfl); (· (simp (maxSteps := 1000000) (disch := first | exact dq | fail) only [go_sem]) <;> rfl); (· exact b3); try (simp (maxSteps := 1000000) (disch := first | exact dq | fail) only [go_sem]))
            (repeat' (first | refine Nx.go ?_ | fail) <;> try (simp (maxSteps := 1000000) (disch := first | exact dq | fail) only [go_sem]))
            all_goals (try omega)
            ((with_reducible first | apply left_callf | apply leftD_callf | apply leftF_callf); (· with_reducible rfl); (· (simp (maxSteps := 1000000) (disch := first | exact dq | fail) only [go_sem]) <;> rfl); (· exact k1); try (simp (maxSteps := 1000000) (disch := first | exact dq | fail) only [go_sem]))
            (repeat' (first | refine Nx.go ?_ | fail) <;> try (simp (maxSteps := 1000000) (disch := first | exact dq | fail) only [go_sem]))
            ((with_reducible first | apply left_callf | apply leftD_callf | apply leftF_callf); (· with_reducible rfl); (· (simp (maxSteps := 1000000) (disch := first | exact dq | fail) only [go_sem]) <;> rfl); (· exact k2); try (simp (maxSteps := 1000000) (disch := first | exact dq | fail) only [go_sem]))
            (repeat' (first | refine Nx.go ?_ | fail) <;> try (simp (maxSteps := 1000000) (disch := first | exact dq | fail) only [go_sem, c1, decide_false]))
            all_goals (try omega)
            ((with_reducible first | apply left_callf | apply leftD_callf | apply leftF_callf); (· with_reducible rfl); (· (simp (maxSteps := 1000000) (disch := first | exact dq | fail) only [go_sem]) <;> rfl); (· exact b5); try (simp (maxSteps := 1000000) (disch := first | exact dq | fail) only [go_sem]))
            (repeat' (with_reducible first | refine Nx.go ?_ | refine And.intro ?_ ?_ | fail) <;> try (simp (maxSteps := 1000000) (disch := first | exact dq | fail) only [go_sem, e3, tkV]))
            all_goals (try omega)
      | false =>
        rw [h3] at b3
        rw [if_neg (by decide)]
        cases h4 : bgnF s a [60] with
        | true =>
          rw [h4] at b4
          rw [if_pos rfl]
          have kt := tag_spec s a hs (bgnF_le h4)
          generalize (tagF s a).1 = u at *
          generalize (tagF s a).2 = v at *
          unfold stV tksV tC tCD at *
          refine PCalls.of_aw Try.func40 rfl (by unfold Callable; kernel_rfl) (by kernel_rfl) (by simp [Try.ntmps40]) ?_; rw [Try.ntmps40, Try.results40]; (simp (maxSteps := 1000000) (disch := first | exact dq | fail) only [go_sem])
          (repeat' (first | refine Nx.go ?_ | fail) <;> try (simp (maxSteps := 1000000) (disch := first | exact dq | fail) only [go_sem]))
          ((with_reducible first | apply left_callf | apply leftD_callf | apply leftF_callf); (· with_reducible rfl); (· (simp (maxSteps := 1000000) (disch := first | exact dq | fail) only [go_sem]) <;> rfl); (· exact b1); try (simp (maxSteps := 1000000) (disch := first | exact dq | fail) only [go_sem]))
          (repeat' (first | refine Nx.go ?_ | fail) <;> try (simp (maxSteps := 1000000) (disch := first | exact dq | fail) only [go_sem]))
          ((with_reducible first | apply left_callf | apply leftD_callf | apply leftF_callf); (· with_reducible rfl); (· (simp (maxSteps := 1000000) (disch := first | exact dq | fail) only [go_sem]) <;> rfl); (· exact b2); try (simp (maxSteps := 1000000) (disch := first | exact dq | fail) only [go_sem]))
          (repeat' (first | refine Nx.go ?_ | fail) <;> try (simp (maxSteps := 1000000) (disch := first | exact dq | fail) only [go_sem]))
          ((with_reducible first | apply left_callf | apply leftD_callf | apply leftF_callf); (· with_reducible rfl); (· (simp (maxSteps := 1000000) (disch := first | exact dq | fail) only [go_sem]) <;> rfl); (· exact b3); try (simp (maxSteps := 1000000) (disch := first | exact dq | fail) only [go_sem]))
          (repeat' (first | refine Nx.go ?_ | fail) <;> try (simp (maxSteps := 1000000) (disch := first | exact dq | fail) only [go_sem]))
          ((with_reducible first | apply left_callf | apply leftD_callf | apply leftF_callf); (· with_reducible rfl); (· (simp (maxSteps := 1000000) (disch := first | exact dq | fail) only [go_sem]) <;> rfl); (· exact b4); try (simp (maxSteps := 1000000) (disch := first | exact dq | fail) only [go_sem]))
          (repeat' (first | refine Nx.go ?_ | fail) <;> try (simp (maxSteps := 1000000) (disch := first | exact dq | fail) only [go_sem]))
          ((with_reducible first | apply left_callf | apply leftD_callf | apply leftF_callf); (· with_reducible rfl); (· (simp (maxSteps := 1000000) (disch := first | exact dq | fail) only [go_sem]) <;> rfl); (· exact kt); try (simp (maxSteps := 1000000) (disch := first | exact dq | fail) only [go_sem]))
          (repeat' (first | refine Nx.go ?_ | fail) <;> try (simp (maxSteps := 1000000) (disch := first | exact dq | fail) only [go_sem]))
        | false =>
          rw [h4] at b4
          rw [if_neg (by decide)]
          have f1 := find_spec s a [60] hs (by omega) (by decide)
          have cf := findF_cases s [60] a
          generalize findF s a [60] = F at *
          dsimp only
          obtain ⟨e, he, hae, hes⟩ : ∃ e : Nat, ((F < 0) = True ∧ e = s.length ∨ (F < 0) = False ∧ F = e) ∧ a ≤ e ∧ e ≤ s.length := by
            by_cases cF : F < 0
            · exact ⟨s.length, .inl ⟨eq_true cF, rfl⟩, ha, Nat.le_refl _⟩
            · have cf2 := cf.resolve_left (by omega)
              refine ⟨F.toNat, .inr ⟨eq_false cF, by omega⟩, by omega, ?_⟩
              have := cf2.2.1
              omega
          have hee : (if F < 0 then s.length else F.toNat) = e := by
            rcases he with ⟨h, rfl⟩ | ⟨h, rfl⟩
            · rw [if_pos (of_eq_true h)]
            · rw [if_neg (of_eq_false h), Int.toNat_natCast]
          rw [hee]
          have dc := decoded_spec (sub s a e) (Nat.le_trans (sub_len s a e) hs)
          generalize (decF (sub s a e)).1 = u at *
          generalize (decF (sub s a e)).2 = v at *
          unfold stV tksV tC tCD sub at *
          rcases he with ⟨cF, rfl⟩ | ⟨cF, rfl⟩
          all_goals (
            refine PCalls.of_aw Try.func40 rfl (by unfold Callable; kernel_rfl) (by kernel_rfl) (by simp [Try.ntmps40]) ?_; rw [Try.ntmps40, Try.results40]; (simp (maxSteps := 1000000) (disch := first | exact dq | fail) only [go_sem])
            (repeat' (first | refine Nx.go ?_ | fail) <;> try (simp (maxSteps := 1000000) (disch := first | exact dq | fail) only [go_sem]))
            ((with_reducible first | apply left_callf | apply leftD_callf | apply leftF_callf); (· with_reducible rfl); (· (simp (maxSteps := 1000000) (disch := first | exact dq | fail) only [go_sem]) <;> rfl); (· exact b1); try (simp (maxSteps := 1000000) (disch := first | exact dq | fail) only [go_sem]))
            (repeat' (first | refine Nx.go ?_ | fail) <;> try (simp (maxSteps := 1000000) (disch := first | exact dq | fail) only [go_sem]))
            ((with_reducible first | apply left_callf | apply leftD_callf | apply leftF_callf); (· with_reducible rfl); (· (simp (maxSteps := 1000000) (disch := first | exact dq | fail) only [go_sem]) <;> rfl); (· exact b2); try (simp (maxSteps := 1000000) (disch := first | exact dq | fail) only [go_sem]))
            (repeat' (first | refine Nx.go ?_ | fail) <;> try (simp (maxSteps := 1000000) (disch := first | exact dq | fail) only [go_sem]))
            ((with_reducible first | apply left_callf | apply leftD_callf | apply leftF_callf); (· with_reducible rfl); (· (simp (maxSteps := 1000000) (disch := first | exact dq | fail) only [go_sem]) <;> rfl); (· exact b3); try (simp (maxSteps := 1000000) (disch := first | exact dq | fail) only [go_sem]))
            (repeat' (first | refine Nx.go ?_ | fail) <;> try (simp (maxSteps := 1000000) (disch := first | exact dq | fail) only [go_sem]))
            ((with_reducible first | apply left_callf | apply leftD_callf | apply leftF_callf); (· with_reducible rfl); (· (simp (maxSteps := 1000000) (disch := first | exact dq | fail) only [go_sem]) <;> rfl); (· exact b4); try (simp (maxSteps := 1000000) (disch := first | exact dq | fail) only [go_sem]))
            (repeat' (first | refine Nx.go ?_ | fail) <;> try (simp (maxSteps := 1000000) (disch := first | exact dq | fail) only [go_sem]))
            ((with_reducible first | apply left_callf | apply leftD_callf | apply leftF_callf); (· with_reducible rfl); (· (simp (maxSteps := 1000000) (disch := first | exact dq | fail) only [go_sem]) <;> rfl); (· exact f1); try (simp (maxSteps := 1000000) (disch := first | exact dq | fail) only [go_sem]))
            (repeat' (with_reducible first | refine Nx.go ?_ | refine And.intro ?_ ?_ | fail) <;> try (simp (maxSteps := 1000000) (disch := first | exact dq | fail) only [go_sem, cF, decide_true, decide_false]))
            all_goals (try omega)
            ((with_reducible first | apply left_callf | apply leftD_callf | apply leftF_callf); (· with_reducible rfl); (· (simp (maxSteps := 1000000) (disch := first | exact dq | fail) only [go_sem]) <;> rfl); (· exact dc); try (simp (maxSteps := 1000000) (disch := first | exact dq | fail) only [go_sem]))
            (repeat' (first | refine Nx.go ?_ | fail) <;> try (simp (maxSteps := 1000000) (disch := first | exact dq | fail) only [go_sem, tkV]))
            all_goals (try omega))
end Go.Proofs.Ytnijpeeehnnipaa.AM
