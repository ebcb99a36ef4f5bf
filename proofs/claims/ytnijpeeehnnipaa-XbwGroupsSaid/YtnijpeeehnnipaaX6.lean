
/- Chapter 12's document: decoded, attr, tag, piece, Lex. No condition but lengths that fit. -/
import Derived.Test.YtnijpeeehnnipaaX5
set_option linter.unusedVariables false
set_option linter.unusedSimpArgs false
set_option maxRecDepth 20000
namespace Go.Proofs.Ytnijpeeehnnipaa.AM
open Go Go.RowKit

theorem bgnF_le {s : Str} {a : Nat} {t : Str} (h : bgnF s a t = true) : a + t.length ≤ s.length := by
  unfold bgnF at h
  rw [Bool.and_eq_true, decide_eq_true_eq] at h
  exact h.1
theorem entF_bd (s : Str) (a : Nat) : (entF s a).1.length ≤ 4 ∧ ((entF s a).2 ≠ 0 → a + (entF s a).2 ≤ s.length) := by
  have q5 := (numG_bd s (a + 3) 16 (.inr rfl) 9 0 0 rfl (by decide) (by decide))
  have q6 := (numG_bd s (a + 2) 10 (.inl rfl) 9 0 0 rfl (by decide) (by decide))
  change _ ∧ (numF s (a + 3) 16).2 ≤ 8 ∧ ((numF s (a + 3) 16).2 ≠ 0 → a + 3 + (numF s (a + 3) 16).2 < s.length) at q5
  change _ ∧ (numF s (a + 2) 10).2 ≤ 8 ∧ ((numF s (a + 2) 10).2 ≠ 0 → a + 2 + (numF s (a + 2) 10).2 < s.length) at q6
  unfold entF
  split
  · rename_i h; have := bgnF_le h; exact ⟨by decide, fun _ => this⟩
  split
  · rename_i h; have := bgnF_le h; exact ⟨by decide, fun _ => this⟩
  split
  · rename_i h; have := bgnF_le h; exact ⟨by decide, fun _ => this⟩
  split
  · rename_i h; have := bgnF_le h; exact ⟨by decide, fun _ => this⟩
  split
  · rename_i h; have := bgnF_le h; exact ⟨by decide, fun _ => this⟩
  split
  · rename_i h
    have h2 := h.2
    unfold numOk at h2
    rw [Bool.and_eq_true, decide_eq_true_eq] at h2
    have := q5.2.2 (by omega)
    exact ⟨utfF_len _, fun _ => by dsimp only; omega⟩
  split
  · rename_i h
    have h2 := h.2
    unfold numOk at h2
    rw [Bool.and_eq_true, decide_eq_true_eq] at h2
    have := q6.2.2 (by omega)
    exact ⟨utfF_len _, fun _ => by dsimp only; omega⟩
  · exact ⟨by decide, fun h => absurd rfl h⟩
theorem decG_more (s : Str) : ∀ f i t, s.length ≤ f + i → decG s f i t = decG s (f + 1) i t
  | 0, i, t, h => by rw [decG, decG, if_neg (by omega)]
  | f + 1, i, t, h => by
    rw [decG]
    conv => rhs; rw [decG]
    by_cases h1 : i < s.length
    · rw [if_pos h1, if_pos h1]
      split
      · split
        · rfl
        · exact decG_more s f _ _ (by omega)
      · exact decG_more s f _ _ (by omega)
    · rw [if_neg h1, if_neg h1]
theorem decG_any (s : Str) {f i : Nat} {t : Str} (h : s.length ≤ f + i) : ∀ d, decG s (f + d) i t = decG s f i t
  | 0 => rfl
  | d + 1 => by rw [← Nat.add_assoc, ← decG_more s (f + d) i t (by omega)]; exact decG_any s h d
theorem decoded_spec (s : Str) (hs : s.length ≤ 1000000) : PCalls Try.prog 60 [stV s] (.tup [stV (decF s).1, .bool (decF s).2]) := by
  unfold decF stV
  refine PCalls.of_aw Try.func60 rfl (by unfold Callable; kernel_rfl) (by kernel_rfl) (by simp [Try.ntmps60]) ?_; rw [Try.ntmps60, Try.results60]; (simp (disch := first | exact dq | fail) only [go_sem])
  (repeat' (first | refine Nx.go ?_ | fail) <;> try (simp (disch := first | exact dq | fail) only [go_sem]))
  refine aw_loop (α := Nat × Str) (fun x => ⟨40, sl [(0, .iv (.str (bs s))), (4, .iv (.str (bs x.2))), (5, .iv (.int .i64 x.1))], [], 0⟩)
    (fun x => x.1 ≤ s.length ∧ x.2.length ≤ 4 * x.1 ∧ decG s (s.length - x.1) x.1 x.2 = decG s s.length 0 []) (fun x => s.length - x.1) (0, []) (wk_by [] ?_) ⟨by dsimp only; omega, by decide, rfl⟩ ?_
  · (simp (disch := first | exact dq | fail) only [go_sem])
    try rfl
  rintro ⟨i, t⟩ ⟨hi, ht, he⟩
  dsimp only at hi ht he
  rw [← he]
  by_cases g : i < s.length
  · have k1 : (i : Int) < s.length := by omega
    obtain ⟨f, hf⟩ : ∃ f, s.length - i = f + 1 := ⟨s.length - i - 1, by omega⟩
    have hmore : ∀ j u, i < j → j ≤ s.length → decG s (s.length - j) j u = decG s f j u := by
      intro j u hj1 hj2
      obtain ⟨d, hd⟩ : ∃ d, f = (s.length - j) + d := ⟨f - (s.length - j), by omega⟩
      rw [hd, decG_any s (by omega)]
    have eb : (s.getD i 0).toNat = bt s i := rfl
    have hbb := bt_le s i
    rw [hf, decG, if_pos g]
    by_cases c : bt s i = 38
    · rw [if_pos c]
      generalize bt s i = b at *
      have c1 : (b : Int) = 38 := by omega
      have hE := Entity_spec s i hs (by omega)
      have hbd := entF_bd s i
      unfold stV at hE
      generalize (entF s i).1 = x at *
      generalize (entF s i).2 = n at *
      by_cases n0 : n = 0
      · have n1 : (n : Int) = 0 := by omega
        rw [if_pos n0]
        (repeat' (with_reducible first | refine Nx.go ?_ | refine And.intro ?_ ?_ | fail) <;> try (simp (disch := first | exact dq | fail) only [go_sem, k1, eb, eq_true c1, decide_true, Bool.not_true]))
        all_goals (try omega)
        ((with_reducible first | apply left_callf | apply leftD_callf | apply leftF_callf); (· with_reducible rfl); (· (simp (disch := first | exact dq | fail) only [go_sem]) <;> rfl); (· exact hE); try (simp (disch := first | exact dq | fail) only [go_sem]))
        (repeat' (first | refine Nx.go ?_ | fail) <;> try (simp (disch := first | exact dq | fail) only [go_sem, eq_true n1, decide_true]))
      · have n1 : ¬ (n : Int) = 0 := by omega
        have hle := hbd.2 n0
        rw [if_neg n0]
        (repeat' (with_reducible first | refine Nx.go ?_ | refine And.intro ?_ ?_ | fail) <;> try (simp (disch := first | exact dq | fail) only [go_sem, k1, eb, eq_true c1, decide_true, Bool.not_true]))
        all_goals (try omega)
        ((with_reducible first | apply left_callf | apply leftD_callf | apply leftF_callf); (· with_reducible rfl); (· (simp (disch := first | exact dq | fail) only [go_sem]) <;> rfl); (· exact hE); try (simp (disch := first | exact dq | fail) only [go_sem]))
        (repeat' (with_reducible first | refine Nx.go ?_ | refine And.intro ?_ ?_ | fail) <;> try (simp (disch := first | exact dq | fail) only [go_sem, n1, decide_false]))
        all_goals (try omega)
        refine ⟨(i + n, t ++ x), ⟨hle, by dsimp only; rw [List.length_append]; omega, hmore _ _ (by omega) hle⟩, wk_by [] ?_, by dsimp only; omega⟩
        (simp (disch := first | exact dq | fail) only [go_sem])
    · rw [if_neg c]
      generalize bt s i = b at *
      have c1 : ¬ (b : Int) = 38 := by omega
      have e2 : ((i : Int) + 1).toNat - i = 1 := by omega
      have hl1 : ((s.drop i).take 1).length = 1 := by rw [List.length_take, List.length_drop]; omega
      (repeat' (with_reducible first | refine Nx.go ?_ | refine And.intro ?_ ?_ | fail) <;> try (simp (disch := first | exact dq | fail) only [go_sem, k1, eb, c1, e2, decide_true, decide_false, Bool.not_false]))
      all_goals (try omega)
      refine ⟨(i + 1, t ++ (s.drop i).take 1), ⟨by dsimp only; omega, by dsimp only; rw [List.length_append, hl1]; omega, hmore _ _ (by omega) (by omega)⟩, wk_by [] ?_, by dsimp only; omega⟩
      (simp (disch := first | exact dq | fail) only [go_sem])
  · obtain rfl : i = s.length := by omega
    have k1 : ¬ (s.length : Int) < s.length := by omega
    rw [Nat.sub_self, decG]
    (repeat' (first | refine Nx.go ?_ | fail) <;> try (simp (disch := first | exact dq | fail) only [go_sem, k1, decide_false]))
    all_goals (try omega)
def tkV (t : Tk) : IV := .agg [.int .i64 t.kind, .int .i64 t.fr, .int .i64 t.to, .str (bs t.name), .str (bs t.val)]
theorem sub_len (s : Str) (a b : Nat) : (sub s a b).length ≤ s.length := by unfold sub; rw [List.length_take, List.length_drop]; omega
theorem one_le {s : Str} {a : Nat} {c : UInt8} (h : bgnF s a [c] = true) : a + 1 ≤ s.length := bgnF_le h
set_option maxHeartbeats 4000000 in
theorem attr_spec (s : Str) (a : Nat) (hs : s.length ≤ 1000000) (ha : a ≤ s.length) : PCalls Try.prog 73 [stV s, .int .i64 a] (.tup [tkV (attrF s a).1, .bool (attrF s a).2]) := by
  have k1 := Skip_spec s a hs ha
  have l1 := skipF_le s ha
  unfold attrF
  generalize skipF s a = f at *
  have k2 := NameEnd_spec s f hs (by omega)
  have l2 := nameF_le s (show f ≤ s.length by omega)
  generalize nameF s f = e at *
  by_cases c1 : f = a ∨ e = f
  · rw [if_pos c1]
    have c1' : (((f : Int) = a) = True ∧ bt [] 0 = 0) ∨ (((f : Int) = a) = False ∧ ((e : Int) = f) = True) := by
      by_cases h : f = a
      · exact .inl ⟨eq_true (by omega), rfl⟩
      · exact .inr ⟨eq_false (by omega), eq_true (by omega)⟩
    unfold stV tkV tk0 at *
    rcases c1' with ⟨d1, d2⟩ | ⟨d1, d2⟩
    all_goals (
      refine PCalls.of_aw Try.func73 rfl (by unfold Callable; kernel_rfl) (by kernel_rfl) (by simp [Try.ntmps73]) ?_; rw [Try.ntmps73, Try.results73]; (simp (maxSteps := 1000000) (disch := first | exact dq | fail) only [go_sem])
      (repeat' (first | refine Nx.go ?_ | fail) <;> try (simp (maxSteps := 1000000) (disch := first | exact dq | fail) only [go_sem]))
      ((with_reducible first | apply left_callf | apply leftD_callf | apply leftF_callf); (· with_reducible rfl); (· (simp (maxSteps := 1000000) (disch := first | exact dq | fail) only [go_sem]) <;> rfl); (· exact k1); try (simp (maxSteps := 1000000) (disch := first | exact dq | fail) only [go_sem]))
      (repeat' (first | refine Nx.go ?_ | fail) <;> try (simp (maxSteps := 1000000) (disch := first | exact dq | fail) only [go_sem]))
      ((with_reducible first | apply left_callf | apply leftD_callf | apply leftF_callf); (· with_reducible rfl); (· (simp (maxSteps := 1000000) (disch := first | exact dq | fail) only [go_sem]) <;> rfl); (· exact k2); try (simp (maxSteps := 1000000) (disch := first | exact dq | fail) only [go_sem]))
      (repeat' (first | refine Nx.go ?_ | fail) <;> try (simp (maxSteps := 1000000) (disch := first | exact dq | fail) only [go_sem, d1, d2, decide_true, decide_false]))
      all_goals (try omega))
  rw [if_neg c1]
  have d1 : ((f : Int) = a) = False := eq_false (by omega)
  have d2 : ((e : Int) = f) = False := eq_false (by omega)
  have k3 := Skip_spec s e hs (by omega)
  have l3 := skipF_le s (show e ≤ s.length by omega)
  generalize skipF s e = g at *
  have b1 := begins12_spec s g [61] hs (by omega) (by decide)
  cases hb1 : bgnF s g [61] with
  | false =>
    rw [hb1] at b1
    rw [if_pos rfl]
    unfold stV tkV tk0 at *
    refine PCalls.of_aw Try.func73 rfl (by unfold Callable; kernel_rfl) (by kernel_rfl) (by simp [Try.ntmps73]) ?_; rw [Try.ntmps73, Try.results73]; (simp (maxSteps := 1000000) (disch := first | exact dq | fail) only [go_sem])
    (repeat' (first | refine Nx.go ?_ | fail) <;> try (simp (maxSteps := 1000000) (disch := first | exact dq | fail) only [go_sem]))
    ((with_reducible first | apply left_callf | apply leftD_callf | apply leftF_callf); (· with_reducible rfl); (· (simp (maxSteps := 1000000) (disch := first | exact dq | fail) only [go_sem]) <;> rfl); (· exact k1); try (simp (maxSteps := 1000000) (disch := first | exact dq | fail) only [go_sem]))
    (repeat' (first | refine Nx.go ?_ | fail) <;> try (simp (maxSteps := 1000000) (disch := first | exact dq | fail) only [go_sem]))
    ((with_reducible first | apply left_callf | apply leftD_callf | apply leftF_callf); (· with_reducible rfl); (· (simp (maxSteps := 1000000) (disch := first | exact dq | fail) only [go_sem]) <;> rfl); (· exact k2); try (simp (maxSteps := 1000000) (disch := first | exact dq | fail) only [go_sem]))
    (repeat' (first | refine Nx.go ?_ | fail) <;> try (simp (maxSteps := 1000000) (disch := first | exact dq | fail) only [go_sem, d1, d2, decide_true, decide_false]))
    all_goals (try omega)
    ((with_reducible first | apply left_callf | apply leftD_callf | apply leftF_callf); (· with_reducible rfl); (· (simp (maxSteps := 1000000) (disch := first | exact dq | fail) only [go_sem]) <;> rfl); (· exact k3); try (simp (maxSteps := 1000000) (disch := first | exact dq | fail) only [go_sem]))
    (repeat' (first | refine Nx.go ?_ | fail) <;> try (simp (maxSteps := 1000000) (disch := first | exact dq | fail) only [go_sem]))
    ((with_reducible first | apply left_callf | apply leftD_callf | apply leftF_callf); (· with_reducible rfl); (· (simp (maxSteps := 1000000) (disch := first | exact dq | fail) only [go_sem]) <;> rfl); (· exact b1); try (simp (maxSteps := 1000000) (disch := first | exact dq | fail) only [go_sem]))
    (repeat' (first | refine Nx.go ?_ | fail) <;> try (simp (maxSteps := 1000000) (disch := first | exact dq | fail) only [go_sem]))
  | true =>
    have l4 := one_le hb1
    rw [hb1] at b1
    rw [if_neg (by decide)]
    have k4 := Skip_spec s (g + 1) hs l4
    have l5 := skipF_le s l4
    rw [show ((g + 1 : Nat) : Int) = (g : Int) + 1 by omega] at k4
    dsimp only
    generalize skipF s (g + 1) = q at *
    have bq := begins12_spec s q [34] hs (by omega) (by decide)
    have ba := begins12_spec s q [39] hs (by omega) (by decide)
    cases hq : bgnF s q [34] with
    | false =>
      rw [hq] at bq
      cases hqa : bgnF s q [39] with
      | false =>
        rw [hqa] at ba
        rw [if_pos ⟨rfl, rfl⟩]
        unfold stV tkV tk0 at *
        refine PCalls.of_aw Try.func73 rfl (by unfold Callable; kernel_rfl) (by kernel_rfl) (by simp [Try.ntmps73]) ?_; rw [Try.ntmps73, Try.results73]; (simp (maxSteps := 1000000) (disch := first | exact dq | fail) only [go_sem])
        (repeat' (first | refine Nx.go ?_ | fail) <;> try (simp (maxSteps := 1000000) (disch := first | exact dq | fail) only [go_sem]))
        ((with_reducible first | apply left_callf | apply leftD_callf | apply leftF_callf); (· with_reducible rfl); (· (simp (maxSteps := 1000000) (disch := first | exact dq | fail) only [go_sem]) <;> rfl); (· exact k1); try (simp (maxSteps := 1000000) (disch := first | exact dq | fail) only [go_sem]))
        (repeat' (first | refine Nx.go ?_ | fail) <;> try (simp (maxSteps := 1000000) (disch := first | exact dq | fail) only [go_sem]))
        ((with_reducible first | apply left_callf | apply leftD_callf | apply leftF_callf); (· with_reducible rfl); (· (simp (maxSteps := 1000000) (disch := first | exact dq | fail) only [go_sem]) <;> rfl); (· exact k2); try (simp (maxSteps := 1000000) (disch := first | exact dq | fail) only [go_sem]))
        (repeat' (first | refine Nx.go ?_ | fail) <;> try (simp (maxSteps := 1000000) (disch := first | exact dq | fail) only [go_sem, d1, d2, decide_true, decide_false]))
        all_goals (try omega)
        ((with_reducible first | apply left_callf | apply leftD_callf | apply leftF_callf); (· with_reducible rfl); (· (simp (maxSteps := 1000000) (disch := first | exact dq | fail) only [go_sem]) <;> rfl); (· exact k3); try (simp (maxSteps := 1000000) (disch := first | exact dq | fail) only [go_sem]))
        (repeat' (first | refine Nx.go ?_ | fail) <;> try (simp (maxSteps := 1000000) (disch := first | exact dq | fail) only [go_sem]))
        ((with_reducible first | apply left_callf | apply leftD_callf | apply leftF_callf); (· with_reducible rfl); (· (simp (maxSteps := 1000000) (disch := first | exact dq | fail) only [go_sem]) <;> rfl); (· exact b1); try (simp (maxSteps := 1000000) (disch := first | exact dq | fail) only [go_sem]))
        (repeat' (first | refine Nx.go ?_ | fail) <;> try (simp (maxSteps := 1000000) (disch := first | exact dq | fail) only [go_sem]))
        all_goals (try omega)
        ((with_reducible first | apply left_callf | apply leftD_callf | apply leftF_callf); (· with_reducible rfl); (· (simp (maxSteps := 1000000) (disch := first | exact dq | fail) only [go_sem]) <;> rfl); (· exact k4); try (simp (maxSteps := 1000000) (disch := first | exact dq | fail) only [go_sem]))
        (repeat' (first | refine Nx.go ?_ | fail) <;> try (simp (maxSteps := 1000000) (disch := first | exact dq | fail) only [go_sem]))
        ((with_reducible first | apply left_callf | apply leftD_callf | apply leftF_callf); (· with_reducible rfl); (· (simp (maxSteps := 1000000) (disch := first | exact dq | fail) only [go_sem]) <;> rfl); (· exact bq); try (simp (maxSteps := 1000000) (disch := first | exact dq | fail) only [go_sem]))
        (repeat' (first | refine Nx.go ?_ | fail) <;> try (simp (maxSteps := 1000000) (disch := first | exact dq | fail) only [go_sem]))
        ((with_reducible first | apply left_callf | apply leftD_callf | apply leftF_callf); (· with_reducible rfl); (· (simp (maxSteps := 1000000) (disch := first | exact dq | fail) only [go_sem]) <;> rfl); (· exact ba); try (simp (maxSteps := 1000000) (disch := first | exact dq | fail) only [go_sem]))
        (repeat' (first | refine Nx.go ?_ | fail) <;> try (simp (maxSteps := 1000000) (disch := first | exact dq | fail) only [go_sem]))
      | true =>
        have lq := one_le hqa
        rw [hqa] at ba
        rw [if_neg (fun h => by cases h.2)]
        have ef := find_spec s (q + 1) (sub s q (q + 1)) hs (by omega) (by have := sub_len s q (q + 1); omega)
        have cf := findF_cases s (sub s q (q + 1)) (q + 1)
        have es : sub s q (q + 1) = (s.drop q).take 1 := by unfold sub; rw [show q + 1 - q = 1 by omega]
        have el : ((s.drop q).take 1).length = 1 := by rw [List.length_take, List.length_drop]; omega
        have e2 : ((q : Int) + 1).toNat - q = 1 := by omega
        rw [show ((q + 1 : Nat) : Int) = (q : Int) + 1 by omega] at ef
        rw [es] at ef cf ⊢
        rw [el] at cf
        generalize findF s (q + 1) ((s.drop q).take 1) = F at *
        by_cases cF : F < 0
        · rw [if_pos cF]
          unfold stV tkV tk0 at *
          refine PCalls.of_aw Try.func73 rfl (by unfold Callable; kernel_rfl) (by kernel_rfl) (by simp [Try.ntmps73]) ?_; rw [Try.ntmps73, Try.results73]; (simp (maxSteps := 1000000) (disch := first | exact dq | fail) only [go_sem])
          (repeat' (first | refine Nx.go ?_ | fail) <;> try (simp (maxSteps := 1000000) (disch := first | exact dq | fail) only [go_sem]))
          ((with_reducible first | apply left_callf | apply leftD_callf | apply leftF_callf); (· with_reducible rfl); (· (simp (maxSteps := 1000000) (disch := first | exact dq | fail) only [go_sem]) <;> rfl); (· exact k1); try (simp (maxSteps := 1000000) (disch := first | exact dq | fail) only [go_sem]))
          (repeat' (first | refine Nx.go ?_ | fail) <;> try (simp (maxSteps := 1000000) (disch := first | exact dq | fail) only [go_sem]))
          ((with_reducible first | apply left_callf | apply leftD_callf | apply leftF_callf); (· with_reducible rfl); (· (simp (maxSteps := 1000000) (disch := first | exact dq | fail) only [go_sem]) <;> rfl); (· exact k2); try (simp (maxSteps := 1000000) (disch := first | exact dq | fail) only [go_sem]))
          (repeat' (first | refine Nx.go ?_ | fail) <;> try (simp (maxSteps := 1000000) (disch := first | exact dq | fail) only [go_sem, d1, d2, decide_true, decide_false]))
          all_goals (try omega)
          ((with_reducible first | apply left_callf | apply leftD_callf | apply leftF_callf); (· with_reducible rfl); (· (simp (maxSteps := 1000000) (disch := first | exact dq | fail) only [go_sem]) <;> rfl); (· exact k3); try (simp (maxSteps := 1000000) (disch := first | exact dq | fail) only [go_sem]))
          (repeat' (first | refine Nx.go ?_ | fail) <;> try (simp (maxSteps := 1000000) (disch := first | exact dq | fail) only [go_sem]))
          ((with_reducible first | apply left_callf | apply leftD_callf | apply leftF_callf); (· with_reducible rfl); (· (simp (maxSteps := 1000000) (disch := first | exact dq | fail) only [go_sem]) <;> rfl); (· exact b1); try (simp (maxSteps := 1000000) (disch := first | exact dq | fail) only [go_sem]))
          (repeat' (first | refine Nx.go ?_ | fail) <;> try (simp (maxSteps := 1000000) (disch := first | exact dq | fail) only [go_sem]))
          all_goals (try omega)
          ((with_reducible first | apply left_callf | apply leftD_callf | apply leftF_callf); (· with_reducible rfl); (· (simp (maxSteps := 1000000) (disch := first | exact dq | fail) only [go_sem]) <;> rfl); (· exact k4); try (simp (maxSteps := 1000000) (disch := first | exact dq | fail) only [go_sem]))
          (repeat' (first | refine Nx.go ?_ | fail) <;> try (simp (maxSteps := 1000000) (disch := first | exact dq | fail) only [go_sem]))
          ((with_reducible first | apply left_callf | apply leftD_callf | apply leftF_callf); (· with_reducible rfl); (· (simp (maxSteps := 1000000) (disch := first | exact dq | fail) only [go_sem]) <;> rfl); (· exact bq); try (simp (maxSteps := 1000000) (disch := first | exact dq | fail) only [go_sem]))
          (repeat' (first | refine Nx.go ?_ | fail) <;> try (simp (maxSteps := 1000000) (disch := first | exact dq | fail) only [go_sem]))
          ((with_reducible first | apply left_callf | apply leftD_callf | apply leftF_callf); (· with_reducible rfl); (· (simp (maxSteps := 1000000) (disch := first | exact dq | fail) only [go_sem]) <;> rfl); (· exact ba); try (simp (maxSteps := 1000000) (disch := first | exact dq | fail) only [go_sem]))
          (repeat' (with_reducible first | refine Nx.go ?_ | refine And.intro ?_ ?_ | fail) <;> try (simp (maxSteps := 1000000) (disch := first | exact dq | fail) only [go_sem, e2]))
          all_goals (try omega)
          ((with_reducible first | apply left_callf | apply leftD_callf | apply leftF_callf); (· with_reducible rfl); (· (simp (maxSteps := 1000000) (disch := first | exact dq | fail) only [go_sem]) <;> rfl); (· exact ef); try (simp (maxSteps := 1000000) (disch := first | exact dq | fail) only [go_sem]))
          (repeat' (first | refine Nx.go ?_ | fail) <;> try (simp (maxSteps := 1000000) (disch := first | exact dq | fail) only [go_sem, cF, decide_true]))
          all_goals (try omega)
        rw [if_neg cF]
        obtain ⟨to, rfl⟩ : ∃ to : Nat, F = to := ⟨F.toNat, by omega⟩
        have lt : q + 1 ≤ to ∧ to + 1 ≤ s.length := by omega
        rw [Int.toNat_natCast]
        have hr : (sub s (q + 1) to).length ≤ 1000000 := Nat.le_trans (sub_len s _ _) hs
        have eg := find_spec (sub s (q + 1) to) 0 [60] hr (by decide) (by decide)
        have dc := decoded_spec (sub s (q + 1) to) hr
        have er : sub s (q + 1) to = (s.drop (q + 1)).take (to - (q + 1)) := rfl
        have e3 : ((q : Int) + 1).toNat = q + 1 := by omega
        have en : sub s f e = (s.drop f).take (e - f) := rfl
        rw [en]
        generalize findF (sub s (q + 1) to) 0 [60] = G at *
        generalize (decF (sub s (q + 1) to)).1 = dv at *
        generalize (decF (sub s (q + 1) to)).2 = db at *
        rw [er] at eg dc hr
        by_cases cG : 0 ≤ G
        · have cG' : G ≥ 0 := cG
          rw [if_pos cG]
          unfold stV tkV tk0 at *
          refine PCalls.of_aw Try.func73 rfl (by unfold Callable; kernel_rfl) (by kernel_rfl) (by simp [Try.ntmps73]) ?_; rw [Try.ntmps73, Try.results73]; (simp (maxSteps := 1000000) (disch := first | exact dq | fail) only [go_sem])
          (repeat' (first | refine Nx.go ?_ | fail) <;> try (simp (maxSteps := 1000000) (disch := first | exact dq | fail) only [go_sem]))
          ((with_reducible first | apply left_callf | apply leftD_callf | apply leftF_callf); (· with_reducible rfl); (· (simp (maxSteps := 1000000) (disch := first | exact dq | fail) only [go_sem]) <;> rfl); (· exact k1); try (simp (maxSteps := 1000000) (disch := first | exact dq | fail) only [go_sem]))
          (repeat' (first | refine Nx.go ?_ | fail) <;> try (simp (maxSteps := 1000000) (disch := first | exact dq | fail) only [go_sem]))
          ((with_reducible first | apply left_callf | apply leftD_callf | apply leftF_callf); (· with_reducible rfl); (· (simp (maxSteps := 1000000) (disch := first | exact dq | fail) only [go_sem]) <;> rfl); (· exact k2); try (simp (maxSteps := 1000000) (disch := first | exact dq | fail) only [go_sem]))
          (repeat' (first | refine Nx.go ?_ | fail) <;> try (simp (maxSteps := 1000000) (disch := first | exact dq | fail) only [go_sem, d1, d2, decide_true, decide_false]))
          all_goals (try omega)
          ((with_reducible first | apply left_callf | apply leftD_callf | apply leftF_callf); (· with_reducible rfl); (· (simp (maxSteps := 1000000) (disch := first | exact dq | fail) only [go_sem]) <;> rfl); (· exact k3); try (simp (maxSteps := 1000000) (disch := first | exact dq | fail) only [go_sem]))
          (repeat' (first | refine Nx.go ?_ | fail) <;> try (simp (maxSteps := 1000000) (disch := first | exact dq | fail) only [go_sem]))
          ((with_reducible first | apply left_callf | apply leftD_callf | apply leftF_callf); (· with_reducible rfl); (· (simp (maxSteps := 1000000) (disch := first | exact dq | fail) only [go_sem]) <;> rfl); (· exact b1); try (simp (maxSteps := 1000000) (disch := first | exact dq | fail) only [go_sem]))
          (repeat' (first | refine Nx.go ?_ | fail) <;> try (simp (maxSteps := 1000000) (disch := first | exact dq | fail) only [go_sem]))
          all_goals (try omega)
          ((with_reducible first | apply left_callf | apply leftD_callf | apply leftF_callf); (· with_reducible rfl); (· (simp (maxSteps := 1000000) (disch := first | exact dq | fail) only [go_sem]) <;> rfl); (· exact k4); try (simp (maxSteps := 1000000) (disch := first | exact dq | fail) only [go_sem]))
          (repeat' (first | refine Nx.go ?_ | fail) <;> try (simp (maxSteps := 1000000) (disch := first | exact dq | fail) only [go_sem]))
          ((with_reducible first | apply left_callf | apply leftD_callf | apply leftF_callf); (· with_reducible rfl); (· (simp (maxSteps := 1000000) (disch := first | exact dq | fail) only [go_sem]) <;> rfl); (· exact bq); try (simp (maxSteps := 1000000) (disch := first | exact dq | fail) only [go_sem]))
          (repeat' (first | refine Nx.go ?_ | fail) <;> try (simp (maxSteps := 1000000) (disch := first | exact dq | fail) only [go_sem]))
          ((with_reducible first | apply left_callf | apply leftD_callf | apply leftF_callf); (· with_reducible rfl); (· (simp (maxSteps := 1000000) (disch := first | exact dq | fail) only [go_sem]) <;> rfl); (· exact ba); try (simp (maxSteps := 1000000) (disch := first | exact dq | fail) only [go_sem]))
          (repeat' (with_reducible first | refine Nx.go ?_ | refine And.intro ?_ ?_ | fail) <;> try (simp (maxSteps := 1000000) (disch := first | exact dq | fail) only [go_sem, e2]))
          all_goals (try omega)
          ((with_reducible first | apply left_callf | apply leftD_callf | apply leftF_callf); (· with_reducible rfl); (· (simp (maxSteps := 1000000) (disch := first | exact dq | fail) only [go_sem]) <;> rfl); (· exact ef); try (simp (maxSteps := 1000000) (disch := first | exact dq | fail) only [go_sem]))
          (repeat' (with_reducible first | refine Nx.go ?_ | refine And.intro ?_ ?_ | fail) <;> try (simp (maxSteps := 1000000) (disch := first | exact dq | fail) only [go_sem, cF, e3, decide_false]))
          all_goals (try omega)
          ((with_reducible first | apply left_callf | apply leftD_callf | apply leftF_callf); (· with_reducible rfl); (· (simp (maxSteps := 1000000) (disch := first | exact dq | fail) only [go_sem]) <;> rfl); (· exact eg); try (simp (maxSteps := 1000000) (disch := first | exact dq | fail) only [go_sem]))
          (repeat' (first | refine Nx.go ?_ | fail) <;> try (simp (maxSteps := 1000000) (disch := first | exact dq | fail) only [go_sem, cG', decide_true]))
          all_goals (try omega)
        have cG' : ¬ G ≥ 0 := cG
        rw [if_neg cG]
        unfold stV tkV at *
        refine PCalls.of_aw Try.func73 rfl (by unfold Callable; kernel_rfl) (by kernel_rfl) (by simp [Try.ntmps73]) ?_; rw [Try.ntmps73, Try.results73]; (simp (maxSteps := 1000000) (disch := first | exact dq | fail) only [go_sem])
        (repeat' (first | refine Nx.go ?_ | fail) <;> try (simp (maxSteps := 1000000) (disch := first | exact dq | fail) only [go_sem]))
        ((with_reducible first | apply left_callf | apply leftD_callf | apply leftF_callf); (· with_reducible rfl); (· (simp (maxSteps := 1000000) (disch := first | exact dq | fail) only [go_sem]) <;> rfl); (· exact k1); try (simp (maxSteps := 1000000) (disch := first | exact dq | fail) only [go_sem]))
        (repeat' (first | refine Nx.go ?_ | fail) <;> try (simp (maxSteps := 1000000) (disch := first | exact dq | fail) only [go_sem]))
        ((with_reducible first | apply left_callf | apply leftD_callf | apply leftF_callf); (· with_reducible rfl); (· (simp (maxSteps := 1000000) (disch := first | exact dq | fail) only [go_sem]) <;> rfl); (· exact k2); try (simp (maxSteps := 1000000) (disch := first | exact dq | fail) only [go_sem]))
        (repeat' (first | refine Nx.go ?_ | fail) <;> try (simp (maxSteps := 1000000) (disch := first | exact dq | fail) only [go_sem, d1, d2, decide_true, decide_false]))
        all_goals (try omega)
        ((with_reducible first | apply left_callf | apply leftD_callf | apply leftF_callf); (· with_reducible rfl); (· (simp (maxSteps := 1000000) (disch := first | exact dq | fail) only [go_sem]) <;> rfl); (· exact k3); try (simp (maxSteps := 1000000) (disch := first | exact dq | fail) only [go_sem]))
        (repeat' (first | refine Nx.go ?_ | fail) <;> try (simp (maxSteps := 1000000) (disch := first | exact dq | fail) only [go_sem]))
        ((with_reducible first | apply left_callf | apply leftD_callf | apply leftF_callf); (· with_reducible rfl); (· (simp (maxSteps := 1000000) (disch := first | exact dq | fail) only [go_sem]) <;> rfl); (· exact b1); try (simp (maxSteps := 1000000) (disch := first | exact dq | fail) only [go_sem]))
        (repeat' (first | refine Nx.go ?_ | fail) <;> try (simp (maxSteps := 1000000) (disch := first | exact dq | fail) only [go_sem]))
        all_goals (try omega)
        ((with_reducible first | apply left_callf | apply leftD_callf | apply leftF_callf); (· with_reducible rfl); (· (simp (maxSteps := 1000000) (disch := first | exact dq | fail) only [go_sem]) <;> rfl); (· exact k4); try (simp (maxSteps := 1000000) (disch := first | exact dq | fail) only [go_sem]))
        (repeat' (first | refine Nx.go ?_ | fail) <;> try (simp (maxSteps := 1000000) (disch := first | exact dq | fail) only [go_sem]))
        ((with_reducible first | apply left_callf | apply leftD_callf | apply leftF_callf); (· with_reducible rfl); (· (simp (maxSteps := 1000000) (disch := first | exact dq | fail) only [go_sem]) <;> rfl); (· exact bq); try (simp (maxSteps := 1000000) (disch := first | exact dq | fail) only [go_sem]))
        (repeat' (first | refine Nx.go ?_ | fail) <;> try (simp (maxSteps := 1000000) (disch := first | exact dq | fail) only [go_sem]))
        ((with_reducible first | apply left_callf | apply leftD_callf | apply leftF_callf); (· with_reducible rfl); (· (simp (maxSteps := 1000000) (disch := first | exact dq | fail) only [go_sem]) <;> rfl); (· exact ba); try (simp (maxSteps := 1000000) (disch := first | exact dq | fail) only [go_sem]))
        (repeat' (with_reducible first | refine Nx.go ?_ | refine And.intro ?_ ?_ | fail) <;> try (simp (maxSteps := 1000000) (disch := first | exact dq | fail) only [go_sem, e2]))
        all_goals (try omega)
        ((with_reducible first | apply left_callf | apply leftD_callf | apply leftF_callf); (· with_reducible rfl); (· (simp (maxSteps := 1000000) (disch := first | exact dq | fail) only [go_sem]) <;> rfl); (· exact ef); try (simp (maxSteps := 1000000) (disch := first | exact dq | fail) only [go_sem]))
        (repeat' (with_reducible first | refine Nx.go ?_ | refine And.intro ?_ ?_ | fail) <;> try (simp (maxSteps := 1000000) (disch := first | exact dq | fail) only [go_sem, cF, e3, decide_false]))
        all_goals (try omega)
        ((with_reducible first | apply left_callf | apply leftD_callf | apply leftF_callf); (· with_reducible rfl); (· (simp (maxSteps := 1000000) (disch := first | exact dq | fail) only [go_sem]) <;> rfl); (· exact eg); try (simp (maxSteps := 1000000) (disch := first | exact dq | fail) only [go_sem]))
        (repeat' (first | refine Nx.go ?_ | fail) <;> try (simp (maxSteps := 1000000) (disch := first | exact dq | fail) only [go_sem, cG', decide_false]))
        all_goals (try omega)
        ((with_reducible first | apply left_callf | apply leftD_callf | apply leftF_callf); (· with_reducible rfl); (· (simp (maxSteps := 1000000) (disch := first | exact dq | fail) only [go_sem]) <;> rfl); (· exact dc); try (simp (maxSteps := 1000000) (disch := first | exact dq | fail) only [go_sem]))
        (repeat' (with_reducible first | refine Nx.go ?_ | refine And.intro ?_ ?_ | fail) <;> try (simp (maxSteps := 1000000) (disch := first | exact dq | fail) only [go_sem]))
        all_goals (try omega)
    | true =>
      have lq := one_le hq
      rw [hq] at bq
      rw [if_neg (fun h => by cases h.1)]
      have ef := find_spec s (q + 1) (sub s q (q + 1)) hs (by omega) (by have := sub_len s q (q + 1); omega)
      have cf := findF_cases s (sub s q (q + 1)) (q + 1)
      have es : sub s q (q + 1) = (s.drop q).take 1 := by unfold sub; rw [show q + 1 - q = 1 by omega]
      have el : ((s.drop q).take 1).length = 1 := by rw [List.length_take, List.length_drop]; omega
      have e2 : ((q : Int) + 1).toNat - q = 1 := by omega
      rw [show ((q + 1 : Nat) : Int) = (q : Int) + 1 by omega] at ef
      rw [es] at ef cf ⊢
      rw [el] at cf
      generalize findF s (q + 1) ((s.drop q).take 1) = F at *
      by_cases cF : F < 0
      · rw [if_pos cF]
        unfold stV tkV tk0 at *
        refine PCalls.of_aw Try.func73 rfl (by unfold Callable; kernel_rfl) (by kernel_rfl) (by simp [Try.ntmps73]) ?_; rw [Try.ntmps73, Try.results73]; (simp (maxSteps := 1000000) (disch := first | exact dq | fail) only [go_sem])
        (repeat' (first | refine Nx.go ?_ | fail) <;> try (simp (maxSteps := 1000000) (disch := first | exact dq | fail) only [go_sem]))
        ((with_reducible first | apply left_callf | apply leftD_callf | apply leftF_callf); (· with_reducible rfl); (· (simp (maxSteps := 1000000) (disch := first | exact dq | fail) only [go_sem]) <;> rfl); (· exact k1); try (simp (maxSteps := 1000000) (disch := first | exact dq | fail) only [go_sem]))
        (repeat' (first | refine Nx.go ?_ | fail) <;> try (simp (maxSteps := 1000000) (disch := first | exact dq | fail) only [go_sem]))
        ((with_reducible first | apply left_callf | apply leftD_callf | apply leftF_callf); (· with_reducible rfl); (· (simp (maxSteps := 1000000) (disch := first | exact dq | fail) only [go_sem]) <;> rfl); (· exact k2); try (simp (maxSteps := 1000000) (disch := first | exact dq | fail) only [go_sem]))
        (repeat' (first | refine Nx.go ?_ | fail) <;> try (simp (maxSteps := 1000000) (disch := first | exact dq | fail) only [go_sem, d1, d2, decide_true, decide_false]))
        all_goals (try omega)
        ((with_reducible first | apply left_callf | apply leftD_callf | apply leftF_callf); (· with_reducible rfl); (· (simp (maxSteps := 1000000) (disch := first | exact dq | fail) only [go_sem]) <;> rfl); (· exact k3); try (simp (maxSteps := 1000000) (disch := first | exact dq | fail) only [go_sem]))
        (repeat' (first | refine Nx.go ?_ | fail) <;> try (simp (maxSteps := 1000000) (disch := first | exact dq | fail) only [go_sem]))
        ((with_reducible first | apply left_callf | apply leftD_callf | apply leftF_callf); (· with_reducible rfl); (· (simp (maxSteps := 1000000) (disch := first | exact dq | fail) only [go_sem]) <;> rfl); (· exact b1); try (simp (maxSteps := 1000000) (disch := first | exact dq | fail) only [go_sem]))
        (repeat' (first | refine Nx.go ?_ | fail) <;> try (simp (maxSteps := 1000000) (disch := first | exact dq | fail) only [go_sem]))
        all_goals (try omega)
        ((with_reducible first | apply left_callf | apply leftD_callf | apply leftF_callf); (· with_reducible rfl); (· (simp (maxSteps := 1000000) (disch := first | exact dq | fail) only [go_sem]) <;> rfl); (· exact k4); try (simp (maxSteps := 1000000) (disch := first | exact dq | fail) only [go_sem]))
        (repeat' (first | refine Nx.go ?_ | fail) <;> try (simp (maxSteps := 1000000) (disch := first | exact dq | fail) only [go_sem]))
        ((with_reducible first | apply left_callf | apply leftD_callf | apply leftF_callf); (· with_reducible rfl); (· (simp (maxSteps := 1000000) (disch := first | exact dq | fail) only [go_sem]) <;> rfl); (· exact bq); try (simp (maxSteps := 1000000) (disch := first | exact dq | fail) only [go_sem]))
        (repeat' (with_reducible first | refine Nx.go ?_ | refine And.intro ?_ ?_ | fail) <;> try (simp (maxSteps := 1000000) (disch := first | exact dq | fail) only [go_sem, e2]))
        all_goals (try omega)
        ((with_reducible first | apply left_callf | apply leftD_callf | apply leftF_callf); (· with_reducible rfl); (· (simp (maxSteps := 1000000) (disch := first | exact dq | fail) only [go_sem]) <;> rfl); (· exact ef); try (simp (maxSteps := 1000000) (disch := first | exact dq | fail) only [go_sem]))
        (repeat' (first | refine Nx.go ?_ | fail) <;> try (simp (maxSteps := 1000000) (disch := first | exact dq | fail) only [go_sem, cF, decide_true]))
        all_goals (try omega)
      rw [if_neg cF]
      obtain ⟨to, rfl⟩ : ∃ to : Nat, F = to := ⟨F.toNat, by omega⟩
      have lt : q + 1 ≤ to ∧ to + 1 ≤ s.length := by omega
      rw [Int.toNat_natCast]
      have hr : (sub s (q + 1) to).length ≤ 1000000 := Nat.le_trans (sub_len s _ _) hs
      have eg := find_spec (sub s (q + 1) to) 0 [60] hr (by decide) (by decide)
      have dc := decoded_spec (sub s (q + 1) to) hr
      have er : sub s (q + 1) to = (s.drop (q + 1)).take (to - (q + 1)) := rfl
      have e3 : ((q : Int) + 1).toNat = q + 1 := by omega
      have en : sub s f e = (s.drop f).take (e - f) := rfl
      rw [en]
      generalize findF (sub s (q + 1) to) 0 [60] = G at *
      generalize (decF (sub s (q + 1) to)).1 = dv at *
      generalize (decF (sub s (q + 1) to)).2 = db at *
      rw [er] at eg dc hr
      by_cases cG : 0 ≤ G
      · have cG' : G ≥ 0 := cG
        rw [if_pos cG]
        unfold stV tkV tk0 at *
        refine PCalls.of_aw Try.func73 rfl (by unfold Callable; kernel_rfl) (by kernel_rfl) (by simp [Try.ntmps73]) ?_; rw [Try.ntmps73, Try.results73]; (simp (maxSteps := 1000000) (disch := first | exact dq | fail) only [go_sem])
        (repeat' (first | refine Nx.go ?_ | fail) <;> try (simp (maxSteps := 1000000) (disch := first | exact dq | fail) only [go_sem]))
        ((with_reducible first | apply left_callf | apply leftD_callf | apply leftF_callf); (· with_reducible rfl); (· (simp (maxSteps := 1000000) (disch := first | exact dq | fail) only [go_sem]) <;> rfl); (· exact k1); try (simp (maxSteps := 1000000) (disch := first | exact dq | fail) only [go_sem]))
        (repeat' (first | refine Nx.go ?_ | fail) <;> try (simp (maxSteps := 1000000) (disch := first | exact dq | fail) only [go_sem]))
        ((with_reducible first | apply left_callf | apply leftD_callf | apply leftF_callf); (· with_reducible rfl); (· (simp (maxSteps := 1000000) (disch := first | exact dq | fail) only [go_sem]) <;> rfl); (· exact k2); try (simp (maxSteps := 1000000) (disch := first | exact dq | fail) only [go_sem]))
        (repeat' (first | refine Nx.go ?_ | fail) <;> try (simp (maxSteps := 1000000) (disch := first | exact dq | fail) only [go_sem, d1, d2, decide_true, decide_false]))
        all_goals (try omega)
        ((with_reducible first | apply left_callf | apply leftD_callf | apply leftF_callf); (· with_reducible rfl); (· (simp (maxSteps := 1000000) (disch := first | exact dq | fail) only [go_sem]) <;> rfl); (· exact k3); try (simp (maxSteps := 1000000) (disch := first | exact dq | fail) only [go_sem]))
        (repeat' (first | refine Nx.go ?_ | fail) <;> try (simp (maxSteps := 1000000) (disch := first | exact dq | fail) only [go_sem]))
        ((with_reducible first | apply left_callf | apply leftD_callf | apply leftF_callf); (· with_reducible rfl); (· (simp (maxSteps := 1000000) (disch := first | exact dq | fail) only [go_sem]) <;> rfl); (· exact b1); try (simp (maxSteps := 1000000) (disch := first | exact dq | fail) only [go_sem]))
        (repeat' (first | refine Nx.go ?_ | fail) <;> try (simp (maxSteps := 1000000) (disch := first | exact dq | fail) only [go_sem]))
        all_goals (try omega)
        ((with_reducible first | apply left_callf | apply leftD_callf | apply leftF_callf); (· with_reducible rfl); (· (simp (maxSteps := 1000000) (disch := first | exact dq | fail) only [go_sem]) <;> rfl); (· exact k4); try (simp (maxSteps := 1000000) (disch := first | exact dq | fail) only [go_sem]))
        (repeat' (first | refine Nx.go ?_ | fail) <;> try (simp (maxSteps := 1000000) (disch := first | exact dq | fail) only [go_sem]))
        ((with_reducible first | apply left_callf | apply leftD_callf | apply leftF_callf); (· with_reducible rfl); (· (simp (maxSteps := 1000000) (disch := first | exact dq | fail) only [go_sem]) <;> rfl); (· exact bq); try (simp (maxSteps := 1000000) (disch := first | exact dq | fail) only [go_sem]))
        (repeat' (with_reducible first | refine Nx.go ?_ | refine And.intro ?_ ?_ | fail) <;> try (simp (maxSteps := 1000000) (disch := first | exact dq | fail) only [go_sem, e2]))
        all_goals (try omega)
        ((with_reducible first | apply left_callf | apply leftD_callf | apply leftF_callf); (· with_reducible rfl); (· (simp (maxSteps := 1000000) (disch := first | exact dq | fail) only [go_sem]) <;> rfl); (· exact ef); try (simp (maxSteps := 1000000) (disch := first | exact dq | fail) only [go_sem]))
        (repeat' (with_reducible first | refine Nx.go ?_ | refine And.intro ?_ ?_ | fail) <;> try (simp (maxSteps := 1000000) (disch := first | exact dq | fail) only [go_sem, cF, e3, decide_false]))
        all_goals (try omega)
        ((with_reducible first | apply left_callf | apply leftD_callf | apply leftF_callf); (· with_reducible rfl); (· (simp (maxSteps := 1000000) (disch := first | exact dq | fail) only [go_sem]) <;> rfl); (· exact eg); try (simp (maxSteps := 1000000) (disch := first | exact dq | fail) only [go_sem]))
        (repeat' (first | refine Nx.go ?_ | fail) <;> try (simp (maxSteps := 1000000) (disch := first | exact dq | fail) only [go_sem, cG', decide_true]))
        all_goals (try omega)
      have cG' : ¬ G ≥ 0 := cG
      rw [if_neg cG]
      unfold stV tkV at *
      refine PCalls.of_aw Try.func73 rfl (by unfold Callable; kernel_rfl) (by kernel_rfl) (by simp [Try.ntmps73]) ?_; rw [Try.ntmps73, Try.results73]; (simp (maxSteps := 1000000) (disch := first | exact dq | fail) only [go_sem])
      (repeat' (first | refine Nx.go ?_ | fail) <;> try (simp (maxSteps := 1000000) (disch := first | exact dq | fail) only [go_sem]))
      ((with_reducible first | apply left_callf | apply leftD_callf | apply leftF_callf); (· with_reducible rfl); (· (simp (maxSteps := 1000000) (disch := first | exact dq | fail) only [go_sem]) <;> rfl); (· exact k1); try (simp (maxSteps := 1000000) (disch := first | exact dq | fail) only [go_sem]))
      (repeat' (first | refine Nx.go ?_ | fail) <;> try (simp (maxSteps := 1000000) (disch := first | exact dq | fail) only [go_sem]))
      ((with_reducible first | apply left_callf | apply leftD_callf | apply leftF_callf); (· with_reducible rfl); (· (simp (maxSteps := 1000000) (disch := first | exact dq | fail) only [go_sem]) <;> rfl); (· exact k2); try (simp (maxSteps := 1000000) (disch := first | exact dq | fail) only [go_sem]))
      (repeat' (first | refine Nx.go ?_ | fail) <;> try (simp (maxSteps := 1000000) (disch := first | exact dq | fail) only [go_sem, d1, d2, decide_true, decide_false]))
      all_goals (try omega)
      ((with_reducible first | apply left_callf | apply leftD_callf | apply leftF_callf); (· with_reducible rfl); (· (simp (maxSteps := 1000000) (disch := first | exact dq | fail) only [go_sem]) <;> rfl); (· exact k3); try (simp (maxSteps := 1000000) (disch := first | exact dq | fail) only [go_sem]))
      (repeat' (first | refine Nx.go ?_ | fail) <;> try (simp (maxSteps := 1000000) (disch := first | exact dq | fail) only [go_sem]))
      ((with_reducible first | apply left_callf | apply leftD_callf | apply leftF_callf); (· with_reducible rfl); (· (simp (maxSteps := 1000000) (disch := first | exact dq | fail) only [go_sem]) <;> rfl); (· exact b1); try (simp (maxSteps := 1000000) (disch := first | exact dq | fail) only [go_sem]))
      (repeat' (first | refine Nx.go ?_ | fail) <;> try (simp (maxSteps := 1000000) (disch := first | exact dq | fail) only [go_sem]))
      all_goals (try omega)
      ((with_reducible first | apply left_callf | apply leftD_callf | apply leftF_callf); (· with_reducible rfl); (· (simp (maxSteps := 1000000) (disch := first | exact dq | fail) only [go_sem]) <;> rfl); (· exact k4); try (simp (maxSteps := 1000000) (disch := first | exact dq | fail) only [go_sem]))
      (repeat' (first | refine Nx.go ?_ | fail) <;> try (simp (maxSteps := 1000000) (disch := first | exact dq | fail) only [go_sem]))
      ((with_reducible first | apply left_callf | apply leftD_callf | apply leftF_callf); (· with_reducible rfl); (· (simp (maxSteps := 1000000) (disch := first | exact dq | fail) only [go_sem]) <;> rfl); (· exact bq); try (simp (maxSteps := 1000000) (disch := first | exact dq | fail) only [go_sem]))
      (repeat' (with_reducible first | refine Nx.go ?_ | refine And.intro ?_ ?_ | fail) <;> try (simp (maxSteps := 1000000) (disch := first | exact dq | fail) only [go_sem, e2]))
      all_goals (try omega)
      ((with_reducible first | apply left_callf | apply leftD_callf | apply leftF_callf); (· with_reducible rfl); (· (simp (maxSteps := 1000000) (disch := first | exact dq | fail) only [go_sem]) <;> rfl); (· exact ef); try (simp (maxSteps := 1000000) (disch := first | exact dq | fail) only [go_sem]))
      (repeat' (with_reducible first | refine Nx.go ?_ | refine And.intro ?_ ?_ | fail) <;> try (simp (maxSteps := 1000000) (disch := first | exact dq | fail) only [go_sem, cF, e3, decide_false]))
      all_goals (try omega)
      ((with_reducible first | apply left_callf | apply leftD_callf | apply leftF_callf); (· with_reducible rfl); (· (simp (maxSteps := 1000000) (disch := first | exact dq | fail) only [go_sem]) <;> rfl); (· exact eg); try (simp (maxSteps := 1000000) (disch := first | exact dq | fail) only [go_sem]))
      (repeat' (first | refine Nx.go ?_ | fail) <;> try (simp (maxSteps := 1000000) (disch := first | exact dq | fail) only [go_sem, cG', decide_false]))
      all_goals (try omega)
      ((with_reducible first | apply left_callf | apply leftD_callf | apply leftF_callf); (· with_reducible rfl); (· (simp (maxSteps := 1000000) (disch := first | exact dq | fail) only [go_sem]) <;> rfl); (· exact dc); try (simp (maxSteps := 1000000) (disch := first | exact dq | fail) only [go_sem]))
      (repeat' (with_reducible first | refine Nx.go ?_ | refine And.intro ?_ ?_ | fail) <;> try (simp (maxSteps := 1000000) (disch := first | exact dq | fail) only [go_sem]))
      all_goals (try omega)
end Go.Proofs.Ytnijpeeehnnipaa.AM
