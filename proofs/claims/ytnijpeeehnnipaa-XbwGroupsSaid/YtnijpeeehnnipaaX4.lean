
/- Chapters 11 and 12's documents: begins, find, Encode. No condition but lengths that fit. -/
import Derived.Test.YtnijpeeehnnipaaX3
import Derived.Test.YtnijpeeehnnipaaX2
set_option linter.unusedVariables false
set_option linter.unusedSimpArgs false
set_option maxRecDepth 20000
namespace Go.Proofs.Ytnijpeeehnnipaa.AM
open Go Go.RowKit

theorem begins12_spec (s : Str) (a : Nat) (t : Str) (hs : s.length ≤ 1000000) (ha : a ≤ 1000000) (ht : t.length ≤ 1000000) : PCalls Try.prog 56 [stV s, .int .i64 a, stV t] (.bool (bgnF s a t)) := by
  unfold stV
  by_cases h : a + t.length ≤ s.length
  · have h1 : (a : Int) + t.length ≤ s.length := by omega
    have h2 : ((a : Int) + t.length).toNat - a = t.length := by omega
    have e : bgnF s a t = decide ((s.drop a).take t.length = t) := by unfold bgnF; rw [decide_eq_true h, Bool.true_and]
    rw [e]
    refine PCalls.of_aw Try.func56 rfl (by unfold Callable; kernel_rfl) (by kernel_rfl) (by simp [Try.ntmps56]) ?_; rw [Try.ntmps56, Try.results56]; (simp (disch := first | exact dq | fail) only [go_sem])
    (repeat' (with_reducible first | refine Nx.go ?_ | refine And.intro ?_ ?_ | fail) <;> try (simp (disch := first | exact dq | fail) only [go_sem, h1, h2, decide_true]))
    all_goals (try omega)
  · have h1 : ¬ (a : Int) + t.length ≤ s.length := by omega
    have e : bgnF s a t = false := by unfold bgnF; rw [decide_eq_false h, Bool.false_and]
    rw [e]
    refine PCalls.of_aw Try.func56 rfl (by unfold Callable; kernel_rfl) (by kernel_rfl) (by simp [Try.ntmps56]) ?_; rw [Try.ntmps56, Try.results56]; (simp (disch := first | exact dq | fail) only [go_sem])
    (repeat' (first | refine Nx.go ?_ | fail) <;> try (simp (disch := first | exact dq | fail) only [go_sem, h1, decide_false]))
    all_goals (try omega)
theorem begins11_spec (s : Str) (a : Nat) (t : Str) (hs : s.length ≤ 1000000) (ha : a ≤ 1000000) (ht : t.length ≤ 1000000) : PCalls Try.prog 80 [stV s, .int .i64 a, stV t] (.bool (bgnF s a t)) := by
  unfold stV
  by_cases h : a + t.length ≤ s.length
  · have h0 : (a : Int) ≤ s.length := by omega
    have h1 : (s.length : Int) - a ≥ t.length := by omega
    have h2 : ((a : Int) + t.length).toNat - a = t.length := by omega
    have e : bgnF s a t = decide ((s.drop a).take t.length = t) := by unfold bgnF; rw [decide_eq_true h, Bool.true_and]
    rw [e]
    refine PCalls.of_aw Try.func80 rfl (by unfold Callable; kernel_rfl) (by kernel_rfl) (by simp [Try.ntmps80]) ?_; rw [Try.ntmps80, Try.results80]; (simp (disch := first | exact dq | fail) only [go_sem])
    (repeat' first
  | ((with_reducible first | refine Nx.go ?_ | refine And.intro ?_ ?_ | fail) <;> try (simp (disch := first | exact dq | fail) only [go_sem, h0, h1, h2, decide_true]))
  | ((with_reducible refine Sp.go ?_ ?_) <;> intro h <;> (try (simp (disch := first | exact dq | fail) only [go_sem] at h)) <;> try (simp (disch := first | exact dq | fail) only [go_sem, h, h0, h1, h2, decide_true])) | fail)
    all_goals (try omega)
  · have e : bgnF s a t = false := by unfold bgnF; rw [decide_eq_false h, Bool.false_and]
    rw [e]
    by_cases h0 : (a : Int) ≤ s.length
    · have h1 : ¬ (s.length : Int) - a ≥ t.length := by omega
      refine PCalls.of_aw Try.func80 rfl (by unfold Callable; kernel_rfl) (by kernel_rfl) (by simp [Try.ntmps80]) ?_; rw [Try.ntmps80, Try.results80]; (simp (disch := first | exact dq | fail) only [go_sem])
      (repeat' first
  | ((first | refine Nx.go ?_ | fail) <;> try (simp (disch := first | exact dq | fail) only [go_sem, h0, h1, decide_true, decide_false]))
  | ((with_reducible refine Sp.go ?_ ?_) <;> intro h <;> (try (simp (disch := first | exact dq | fail) only [go_sem] at h)) <;> try (simp (disch := first | exact dq | fail) only [go_sem, h, h0, h1, decide_true, decide_false])) | fail)
      all_goals (try omega)
    · refine PCalls.of_aw Try.func80 rfl (by unfold Callable; kernel_rfl) (by kernel_rfl) (by simp [Try.ntmps80]) ?_; rw [Try.ntmps80, Try.results80]; (simp (disch := first | exact dq | fail) only [go_sem])
      (repeat' first
  | ((first | refine Nx.go ?_ | fail) <;> try (simp (disch := first | exact dq | fail) only [go_sem, h0, decide_true, decide_false]))
  | ((with_reducible refine Sp.go ?_ ?_) <;> intro h <;> (try (simp (disch := first | exact dq | fail) only [go_sem] at h)) <;> try (simp (disch := first | exact dq | fail) only [go_sem, h, h0, decide_true, decide_false])) | fail)
      all_goals (try omega)
theorem findG_more (s t : Str) : ∀ f i, s.length + 1 ≤ f + i → findG s t f i = findG s t (f + 1) i
  | 0, i, h => by rw [findG, findG, if_neg (by omega)]
  | f + 1, i, h => by
    rw [findG]
    conv => rhs; rw [findG]
    by_cases h1 : i + t.length ≤ s.length
    · rw [if_pos h1, if_pos h1]
      split
      · rfl
      · exact findG_more s t f (i + 1) (by omega)
    · rw [if_neg h1, if_neg h1]
theorem findF_step (s t : Str) (i : Nat) : findF s i t = if i + t.length ≤ s.length then (if (s.drop i).take t.length = t then (i : Int) else findF s (i + 1) t) else -1 := by
  unfold findF
  conv => lhs; rw [findG]
  by_cases h1 : i + t.length ≤ s.length
  · rw [if_pos h1, if_pos h1]
    split
    · rfl
    · exact findG_more s t s.length (i + 1) (by omega)
  · rw [if_neg h1, if_neg h1]
theorem findF_cases (s t : Str) (i : Nat) : findF s i t = -1 ∨ ((i : Int) ≤ findF s i t ∧ findF s i t + t.length ≤ s.length ∧ (s.drop (findF s i t).toNat).take t.length = t) := by
  have key : ∀ f i, findG s t f i = -1 ∨ ((i : Int) ≤ findG s t f i ∧ findG s t f i + t.length ≤ s.length ∧ (s.drop (findG s t f i).toNat).take t.length = t) := by
    intro f
    induction f with
    | zero => intro i; exact .inl rfl
    | succ f ih =>
      intro i
      rw [findG]
      by_cases h1 : i + t.length ≤ s.length
      · rw [if_pos h1]
        split
        · rename_i h2
          right
          rw [Int.toNat_natCast]
          exact ⟨by omega, by omega, h2⟩
        · rcases ih (i + 1) with h | h
          · exact .inl h
          · exact .inr ⟨by omega, h.2⟩
      · rw [if_neg h1]; exact .inl rfl
  exact key _ i
theorem find_spec (s : Str) (a : Nat) (t : Str) (hs : s.length ≤ 1000000) (ha : a ≤ 1000000) (ht : t.length ≤ 1000000) : PCalls Try.prog 57 [stV s, .int .i64 a, stV t] (.int .i64 (findF s a t)) := by
  unfold stV
  refine PCalls.of_aw Try.func57 rfl (by unfold Callable; kernel_rfl) (by kernel_rfl) (by simp [Try.ntmps57]) ?_; rw [Try.ntmps57, Try.results57]; (simp (disch := first | exact dq | fail) only [go_sem])
  (repeat' (first | refine Nx.go ?_ | fail) <;> try (simp (disch := first | exact dq | fail) only [go_sem]))
  refine aw_loop (α := Nat) (fun i => ⟨28, sl [(0, .iv (.str (bs s))), (2, .iv (.str (bs t))), (7, .iv (.int .i64 i))], [], 0⟩)
    (fun i => i ≤ 1000001 ∧ findF s i t = findF s a t) (fun i => 1000002 - i) a (wk_by [] ?_) ⟨by omega, rfl⟩ ?_
  · (simp (disch := first | exact dq | fail) only [go_sem])
  rintro i ⟨hi, he⟩
  rw [← he, findF_step]
  by_cases h : i + t.length ≤ s.length
  · have h1 : (i : Int) + t.length ≤ s.length := by omega
    have h2 : ((i : Int) + t.length).toNat - i = t.length := by omega
    rw [if_pos h]
    by_cases g : (s.drop i).take t.length = t
    · rw [if_pos g]
      (repeat' (with_reducible first | refine Nx.go ?_ | refine And.intro ?_ ?_ | fail) <;> try (simp (disch := first | exact dq | fail) only [go_sem, h1, h2, eq_true g, decide_true]))
      all_goals (try omega)
    · rw [if_neg g]
      (repeat' (with_reducible first | refine Nx.go ?_ | refine And.intro ?_ ?_ | fail) <;> try (simp (disch := first | exact dq | fail) only [go_sem, h1, h2, eq_false g, decide_true, decide_false]))
      all_goals (try omega)
      refine ⟨i + 1, ⟨by omega, rfl⟩, wk_by [] ?_, by omega⟩
      (simp (disch := first | exact dq | fail) only [go_sem])
  · have h1 : ¬ (i : Int) + t.length ≤ s.length := by omega
    rw [if_neg h]
    (repeat' (first | refine Nx.go ?_ | fail) <;> try (simp (disch := first | exact dq | fail) only [go_sem, h1, decide_false]))
    all_goals (try omega)
theorem Encode_spec (c : Int) : PCalls Try.prog 72 [.int .i64 c] (stV (utfF c)) := by
  have hp := point_spec c
  unfold stV utfF byI
  cases hb : pointF c with
  | false =>
    rw [hb] at hp
    rw [if_pos rfl]
    refine PCalls.of_aw Try.func72 rfl (by unfold Callable; kernel_rfl) (by kernel_rfl) (by simp [Try.ntmps72]) ?_; rw [Try.ntmps72, Try.results72]; (simp (disch := first | exact dq | fail) only [go_sem])
    (repeat' (first | refine Nx.go ?_ | fail) <;> try (simp (disch := first | exact dq | fail) only [go_sem]))
    ((with_reducible first | apply left_callf | apply leftD_callf | apply leftF_callf); (· with_reducible rfl); (· (simp (disch := first | exact dq | fail) only [go_sem]) <;> rfl); (· exact hp); try (simp (disch := first | exact dq | fail) only [go_sem]))
    (repeat' (first | refine Nx.go ?_ | fail) <;> try (simp (disch := first | exact dq | fail) only [go_sem]))
  | true =>
    rw [hb] at hp
    rw [if_neg (by decide)]
    have hr : 0 ≤ c ∧ c ≤ 1114111 := by
      unfold pointF at hb
      simp only [Bool.and_eq_true, decide_eq_true_eq] at hb
      exact hb.1
    by_cases c1 : c ≤ 127
    · rw [if_pos c1]
      refine PCalls.of_aw Try.func72 rfl (by unfold Callable; kernel_rfl) (by kernel_rfl) (by simp [Try.ntmps72]) ?_; rw [Try.ntmps72, Try.results72]; (simp (disch := first | exact dq | fail) only [go_sem])
      (repeat' (first | refine Nx.go ?_ | fail) <;> try (simp (disch := first | exact dq | fail) only [go_sem]))
      ((with_reducible first | apply left_callf | apply leftD_callf | apply leftF_callf); (· with_reducible rfl); (· (simp (disch := first | exact dq | fail) only [go_sem]) <;> rfl); (· exact hp); try (simp (disch := first | exact dq | fail) only [go_sem]))
      (repeat' (first | refine Nx.go ?_ | fail) <;> try (simp (disch := first | exact dq | fail) only [go_sem, c1, decide_true]))
    rw [if_neg c1]
    have m64 : 0 ≤ c % 64 ∧ c % 64 < 64 := by omega
    by_cases c2 : c ≤ 2047
    · rw [if_pos c2]
      have d1 : 0 ≤ c / 64 ∧ c / 64 ≤ 31 := by omega
      refine PCalls.of_aw Try.func72 rfl (by unfold Callable; kernel_rfl) (by kernel_rfl) (by simp [Try.ntmps72]) ?_; rw [Try.ntmps72, Try.results72]; (simp (disch := first | exact dq | fail) only [go_sem])
      (repeat' (first | refine Nx.go ?_ | fail) <;> try (simp (disch := first | exact dq | fail) only [go_sem]))
      ((with_reducible first | apply left_callf | apply leftD_callf | apply leftF_callf); (· with_reducible rfl); (· (simp (disch := first | exact dq | fail) only [go_sem]) <;> rfl); (· exact hp); try (simp (disch := first | exact dq | fail) only [go_sem]))
      (repeat' (first | refine Nx.go ?_ | fail) <;> try (simp (disch := first | exact dq | fail) only [go_sem, c1, c2, decide_true, decide_false]))
    rw [if_neg c2]
    have m4 : 0 ≤ c % 4096 ∧ c % 4096 < 4096 := by omega
    have d3 : 0 ≤ c % 4096 / 64 ∧ c % 4096 / 64 ≤ 63 := by omega
    by_cases c3 : c ≤ 65535
    · rw [if_pos c3]
      have d1 : 0 ≤ c / 4096 ∧ c / 4096 ≤ 15 := by omega
      refine PCalls.of_aw Try.func72 rfl (by unfold Callable; kernel_rfl) (by kernel_rfl) (by simp [Try.ntmps72]) ?_; rw [Try.ntmps72, Try.results72]; (simp (disch := first | exact dq | fail) only [go_sem])
      (repeat' (first | refine Nx.go ?_ | fail) <;> try (simp (disch := first | exact dq | fail) only [go_sem]))
      ((with_reducible first | apply left_callf | apply leftD_callf | apply leftF_callf); (· with_reducible rfl); (· (simp (disch := first | exact dq | fail) only [go_sem]) <;> rfl); (· exact hp); try (simp (disch := first | exact dq | fail) only [go_sem]))
      (repeat' (first | refine Nx.go ?_ | fail) <;> try (simp (disch := first | exact dq | fail) only [go_sem, c1, c2, c3, decide_true, decide_false]))
    rw [if_neg c3]
    have m5 : 0 ≤ c % 262144 ∧ c % 262144 < 262144 := by omega
    have d4 : 0 ≤ c % 262144 / 4096 ∧ c % 262144 / 4096 ≤ 63 := by omega
    have d1 : 0 ≤ c / 262144 ∧ c / 262144 ≤ 4 := by omega
    refine PCalls.of_aw Try.func72 rfl (by unfold Callable; kernel_rfl) (by kernel_rfl) (by simp [Try.ntmps72]) ?_; rw [Try.ntmps72, Try.results72]; (simp (disch := first | exact dq | fail) only [go_sem])
    (repeat' (first | refine Nx.go ?_ | fail) <;> try (simp (disch := first | exact dq | fail) only [go_sem]))
    ((with_reducible first | apply left_callf | apply leftD_callf | apply leftF_callf); (· with_reducible rfl); (· (simp (disch := first | exact dq | fail) only [go_sem]) <;> rfl); (· exact hp); try (simp (disch := first | exact dq | fail) only [go_sem]))
    (repeat' (first | refine Nx.go ?_ | fail) <;> try (simp (disch := first | exact dq | fail) only [go_sem, c1, c2, c3, decide_true, decide_false]))
set_option maxHeartbeats 1000000 in
theorem Rune_spec (s : Str) (a : Nat) (hs : s.length ≤ 1000000) (ha : a ≤ 1000000) : PCalls Try.prog 54 [stV s, .int .i64 a] (.tup [.int .i64 (runeF s a).1, .int .i64 (runeF s a).2]) := by
  unfold runeF stV
  by_cases h : a < s.length
  · have h1 : ¬ (a : Int) ≥ s.length := by omega
    rw [if_pos h]
    refine PCalls.of_aw Try.func54 rfl (by unfold Callable; kernel_rfl) (by kernel_rfl) (by simp [Try.ntmps54]) ?_; rw [Try.ntmps54, Try.results54]; (simp (maxSteps := 1000000) (disch := first | exact dq | fail) only [go_sem])
    (repeat' first
  | ((first | refine Nx.go ?_ | fail) <;> try (simp (maxSteps := 1000000) (disch := first | exact dq | fail) only [go_sem, h1, decide_true, decide_false]))
  | ((with_reducible refine Sp.go ?_ ?_) <;> intro h <;> (try (simp (maxSteps := 1000000) (disch := first | exact dq | fail) only [go_sem] at h)) <;> try (simp (maxSteps := 1000000) (disch := first | exact dq | fail) only [go_sem, h, h1, decide_true, decide_false])) | fail)
    all_goals (try (exfalso; omega))
    refine aw_loop (α := Nat) (fun n => ⟨75, sl [(0, .iv (.str (bs s))), (1, .iv (.int .i64 a)), (6, .iv (.int .i64 n))], [], 0⟩)
      (fun n => (1 ≤ n ∧ n ≤ 5) ∧ runeG s a (5 - n) n = runeG s a 4 1) (fun n => 5 - n) 1 (wk_by [] ?_) ⟨by omega, rfl⟩ ?_
    · (simp (maxSteps := 1000000) (disch := first | exact dq | fail) only [go_sem])
    rintro n ⟨⟨hn1, hn5⟩, he⟩
    rw [← he]
    by_cases g : n ≤ 4
    · obtain ⟨f, hf⟩ : ∃ f, 5 - n = f + 1 := ⟨4 - n, by omega⟩
      have hf2 : 5 - (n + 1) = f := by omega
      rw [hf, runeG]
      have g1 : (n : Int) ≤ 4 := by omega
      by_cases g2 : n + a ≤ s.length
      · have g3 : (n : Int) ≤ (s.length : Int) - a := by omega
        rw [if_pos g2]
        (repeat' (first | refine Nx.go ?_ | fail) <;> try (simp (maxSteps := 1000000) (disch := first | exact dq | fail) only [go_sem, g1, g3, decide_true]))
        all_goals (try omega)
        refine aw_postE (β := Unit) (fun _ => ⟨75, sl [(0, .iv (.str (bs s))), (1, .iv (.int .i64 a)), (6, .iv (.int .i64 n)), (7, .iv (.int .i64 (codeN s a n n)))], [], 0⟩) (fun _ => True) ?_ ?_
        · refine aw_loop (α := Nat) (fun i => ⟨75, sl [(0, .iv (.str (bs s))), (1, .iv (.int .i64 a)), (6, .iv (.int .i64 n)), (7, .iv (.int .i64 (codeN s a n i))), (8, .iv (.int .i64 i))], [], 0⟩)
            (fun i => i ≤ n) (fun i => n - i) 0 (wk_by [] ?_) (by omega) ?_
          · (simp (maxSteps := 1000000) (disch := first | exact dq | fail) only [go_sem])
            rfl
          rintro i hi
          by_cases gi : i < n
          · have k1 : (i : Int) < n := by omega
            have e1 : ((a : Int) + i).toNat = a + i := by omega
            have eb : (s.getD (a + i) 0).toNat = bt s (a + i) := rfl
            have hb := bt_le s (a + i)
            have hcd := codeN_bd s a n i (by omega)
            have hcd2 := codeN_bd s a n (i + 1) (by omega)
            by_cases i0 : i = 0
            · have k2 : (i : Int) = 0 := by omega
              have ec : codeN s a n (i + 1) = (bt s (a + i) : Int) - lessN n := by subst i0; rfl
              have hl : (((n : Int) = 2) = True ∧ ((n : Int) = 3) = False ∧ ((n : Int) = 4) = False ∧ lessN n = 192) ∨ (((n : Int) = 2) = False ∧ ((n : Int) = 3) = True ∧ ((n : Int) = 4) = False ∧ lessN n = 224) ∨
                  (((n : Int) = 2) = False ∧ ((n : Int) = 3) = False ∧ ((n : Int) = 4) = True ∧ lessN n = 240) ∨ (((n : Int) = 2) = False ∧ ((n : Int) = 3) = False ∧ ((n : Int) = 4) = False ∧ lessN n = 0) := by
                unfold lessN
                by_cases a1 : n = 2
                · left; rw [if_pos a1]; exact ⟨eq_true (by omega), eq_false (by omega), eq_false (by omega), rfl⟩
                by_cases a2 : n = 3
                · right; left; rw [if_neg a1, if_pos a2]; exact ⟨eq_false (by omega), eq_true (by omega), eq_false (by omega), rfl⟩
                by_cases a3 : n = 4
                · right; right; left; rw [if_neg a1, if_neg a2, if_pos a3]; exact ⟨eq_false (by omega), eq_false (by omega), eq_true (by omega), rfl⟩
                · right; right; right; rw [if_neg a1, if_neg a2, if_neg a3]; exact ⟨eq_false (by omega), eq_false (by omega), eq_false (by omega), rfl⟩
              rcases hl with ⟨f2, f3, f4, hl⟩ | ⟨f2, f3, f4, hl⟩ | ⟨f2, f3, f4, hl⟩ | ⟨f2, f3, f4, hl⟩
              all_goals (
                rw [hl] at ec
                (repeat' (with_reducible first | refine Nx.go ?_ | refine And.intro ?_ ?_ | fail) <;> try (simp (maxSteps := 1000000) (disch := first | exact dq | fail) only [go_sem, k1, e1, eb, eq_true k2, f2, f3, f4, decide_true, decide_false]))
                all_goals (try omega)
                all_goals (refine ⟨i + 1, by omega, wk_by [] ?_, by omega⟩; (simp (maxSteps := 1000000) (disch := first | exact dq | fail) only [go_sem, ec])))
            · have k2 : ¬ (i : Int) = 0 := by omega
              have ec : codeN s a n (i + 1) = codeN s a n i * 64 + bt s (a + i) - 128 := by rw [codeN, if_neg i0]
              (repeat' (with_reducible first | refine Nx.go ?_ | refine And.intro ?_ ?_ | fail) <;> try (simp (maxSteps := 1000000) (disch := first | exact dq | fail) only [go_sem, k1, k2, e1, eb, decide_true, decide_false]))
              all_goals (try omega)
              refine ⟨i + 1, by omega, wk_by [] ?_, by omega⟩
              (simp (maxSteps := 1000000) (disch := first | exact dq | fail) only [go_sem, ec])
          · obtain rfl : i = n := by omega
            have k1 : ¬ (i : Int) < i := by omega
            (repeat' (first | refine Nx.go ?_ | fail) <;> try (simp (maxSteps := 1000000) (disch := first | exact dq | fail) only [go_sem, k1, decide_false]))
            refine ⟨(), wk_by [] ?_⟩
            (simp (maxSteps := 1000000) (disch := first | exact dq | fail) only [go_sem])
        · rintro _ _
          have hE := Encode_spec (codeN s a n n)
          generalize codeN s a n n = c at *
          generalize utfF c = u at *
          unfold stV at hE
          have e2 : ((a : Int) + n).toNat - a = n := by omega
          (repeat' (first | refine Nx.go ?_ | fail) <;> try (simp (maxSteps := 1000000) (disch := first | exact dq | fail) only [go_sem]))
          ((with_reducible first | apply left_callf | apply leftD_callf | apply leftF_callf); (· with_reducible rfl); (· (simp (maxSteps := 1000000) (disch := first | exact dq | fail) only [go_sem]) <;> rfl); (· exact hE); try (simp (maxSteps := 1000000) (disch := first | exact dq | fail) only [go_sem]))
          by_cases u0 : u = []
          · rw [if_neg (fun h => h.1 u0)]
            (repeat' (first | refine Nx.go ?_ | fail) <;> try (simp (maxSteps := 1000000) (disch := first | exact dq | fail) only [go_sem, eq_true u0, decide_true]))
            all_goals (try omega)
            refine ⟨n + 1, ⟨by omega, by rw [hf2]⟩, wk_by [] ?_, by omega⟩
            (simp (maxSteps := 1000000) (disch := first | exact dq | fail) only [go_sem])
          · by_cases u1 : u = (s.drop a).take n
            · rw [if_pos ⟨u0, u1⟩]
              (repeat' (with_reducible first | refine Nx.go ?_ | refine And.intro ?_ ?_ | fail) <;> try (simp (maxSteps := 1000000) (disch := first | exact dq | fail) only [go_sem, eq_false u0, e2, eq_true u1, decide_true, decide_false]))
              all_goals (try omega)
            · rw [if_neg (fun h => u1 h.2)]
              (repeat' (with_reducible first | refine Nx.go ?_ | refine And.intro ?_ ?_ | fail) <;> try (simp (maxSteps := 1000000) (disch := first | exact dq | fail) only [go_sem, eq_false u0, e2, eq_false u1, decide_true, decide_false]))
              all_goals (try omega)
              refine ⟨n + 1, ⟨by omega, by rw [hf2]⟩, wk_by [] ?_, by omega⟩
              (simp (maxSteps := 1000000) (disch := first | exact dq | fail) only [go_sem])
      · have g3 : ¬ (n : Int) ≤ (s.length : Int) - a := by omega
        rw [if_neg g2]
        (repeat' (first | refine Nx.go ?_ | fail) <;> try (simp (maxSteps := 1000000) (disch := first | exact dq | fail) only [go_sem, g1, g3, decide_true, decide_false]))
        all_goals (try omega)
    · have g1 : ¬ (n : Int) ≤ 4 := by omega
      have : runeG s a (5 - n) n = (-1, 0) := by rw [show 5 - n = 0 by omega]; rfl
      rw [this]
      (repeat' (first | refine Nx.go ?_ | fail) <;> try (simp (maxSteps := 1000000) (disch := first | exact dq | fail) only [go_sem, g1, decide_false]))
      all_goals (try omega)
  · have h1 : (a : Int) ≥ s.length := by omega
    rw [if_neg h]
    refine PCalls.of_aw Try.func54 rfl (by unfold Callable; kernel_rfl) (by kernel_rfl) (by simp [Try.ntmps54]) ?_; rw [Try.ntmps54, Try.results54]; (simp (maxSteps := 1000000) (disch := first | exact dq | fail) only [go_sem])
    (repeat' first
  | ((first | refine Nx.go ?_ | fail) <;> try (simp (maxSteps := 1000000) (disch := first | exact dq | fail) only [go_sem, h1, decide_true, decide_false]))
  | ((with_reducible refine Sp.go ?_ ?_) <;> intro h <;> (try (simp (maxSteps := 1000000) (disch := first | exact dq | fail) only [go_sem] at h)) <;> try (simp (maxSteps := 1000000) (disch := first | exact dq | fail) only [go_sem, h, h1, decide_true, decide_false])) | fail)
    all_goals (try omega)
theorem Valid_spec (s : Str) (hs : s.length ≤ 1000000) : PCalls Try.prog 39 [stV s] (.bool (validF s)) := by
  unfold validF stV
  refine PCalls.of_aw Try.func39 rfl (by unfold Callable; kernel_rfl) (by kernel_rfl) (by simp [Try.ntmps39]) ?_; rw [Try.ntmps39, Try.results39]; (simp (disch := first | exact dq | fail) only [go_sem])
  (repeat' (first | refine Nx.go ?_ | fail) <;> try (simp (disch := first | exact dq | fail) only [go_sem]))
  refine aw_loop (α := Nat) (fun i => ⟨28, sl [(0, .iv (.str (bs s))), (3, .iv (.int .i64 i))], [], 0⟩)
    (fun i => i ≤ s.length ∧ validG s (s.length - i) i = validG s s.length 0) (fun i => s.length - i) 0 (wk_by [] ?_) ⟨by omega, rfl⟩ ?_
  · (simp (disch := first | exact dq | fail) only [go_sem])
    try rfl
  rintro i ⟨hi, he⟩
  rw [← he]
  by_cases g : i < s.length
  · have k1 : (i : Int) < s.length := by omega
    have hR := Rune_spec s i hs (by omega)
    have hA := Allowed_spec (runeF s i).1
    have hle := runeF_le s i
    have hbd := runeF_bd s i
    obtain ⟨f, hf⟩ : ∃ f, s.length - i = f + 1 := ⟨s.length - i - 1, by omega⟩
    rw [hf, validG, if_pos g]
    have hmore : ∀ j, i < j → j ≤ s.length → validG s (s.length - j) j = validG s f j := by
      intro j hj1 hj2
      obtain ⟨d, hd⟩ : ∃ d, f = (s.length - j) + d := ⟨f - (s.length - j), by omega⟩
      rw [hd]
      clear hd
      induction d with
      | zero => rfl
      | succ d ih => rw [ih, ← Nat.add_assoc]; exact validG_more s _ j (by omega)
    unfold stV at hR
    generalize (runeF s i).1 = c at *
    generalize (runeF s i).2 = n at *
    by_cases n0 : n = 0
    · have n1 : (n : Int) = 0 := by omega
      rw [if_pos (.inl n0)]
      (repeat' (first | refine Nx.go ?_ | fail) <;> try (simp (disch := first | exact dq | fail) only [go_sem, k1, decide_true]))
      all_goals (try omega)
      ((with_reducible first | apply left_callf | apply leftD_callf | apply leftF_callf); (· with_reducible rfl); (· (simp (disch := first | exact dq | fail) only [go_sem]) <;> rfl); (· exact hR); try (simp (disch := first | exact dq | fail) only [go_sem]))
      (repeat' (first | refine Nx.go ?_ | fail) <;> try (simp (disch := first | exact dq | fail) only [go_sem]))
      ((with_reducible first | apply left_callf | apply leftD_callf | apply leftF_callf); (· with_reducible rfl); (· (simp (disch := first | exact dq | fail) only [go_sem]) <;> rfl); (· exact hA); try (simp (disch := first | exact dq | fail) only [go_sem]))
      (repeat' (first | refine Nx.go ?_ | fail) <;> try (simp (disch := first | exact dq | fail) only [go_sem, eq_true n1, decide_true]))
    · have n1 : ¬ (n : Int) = 0 := by omega
      cases hb : allowF c with
      | false =>
        rw [hb] at hA
        rw [if_pos (.inr rfl)]
        (repeat' (first | refine Nx.go ?_ | fail) <;> try (simp (disch := first | exact dq | fail) only [go_sem, k1, decide_true]))
        all_goals (try omega)
        ((with_reducible first | apply left_callf | apply leftD_callf | apply leftF_callf); (· with_reducible rfl); (· (simp (disch := first | exact dq | fail) only [go_sem]) <;> rfl); (· exact hR); try (simp (disch := first | exact dq | fail) only [go_sem]))
        (repeat' (first | refine Nx.go ?_ | fail) <;> try (simp (disch := first | exact dq | fail) only [go_sem]))
        ((with_reducible first | apply left_callf | apply leftD_callf | apply leftF_callf); (· with_reducible rfl); (· (simp (disch := first | exact dq | fail) only [go_sem]) <;> rfl); (· exact hA); try (simp (disch := first | exact dq | fail) only [go_sem]))
        (repeat' (first | refine Nx.go ?_ | fail) <;> try (simp (disch := first | exact dq | fail) only [go_sem, n1, decide_false]))
      | true =>
        rw [hb] at hA
        rw [if_neg (fun h => by rcases h with h | h; exact n0 h; cases h)]
        (repeat' (first | refine Nx.go ?_ | fail) <;> try (simp (disch := first | exact dq | fail) only [go_sem, k1, decide_true]))
        all_goals (try omega)
        ((with_reducible first | apply left_callf | apply leftD_callf | apply leftF_callf); (· with_reducible rfl); (· (simp (disch := first | exact dq | fail) only [go_sem]) <;> rfl); (· exact hR); try (simp (disch := first | exact dq | fail) only [go_sem]))
        (repeat' (first | refine Nx.go ?_ | fail) <;> try (simp (disch := first | exact dq | fail) only [go_sem]))
        ((with_reducible first | apply left_callf | apply leftD_callf | apply leftF_callf); (· with_reducible rfl); (· (simp (disch := first | exact dq | fail) only [go_sem]) <;> rfl); (· exact hA); try (simp (disch := first | exact dq | fail) only [go_sem]))
        (repeat' (first | refine Nx.go ?_ | fail) <;> try (simp (disch := first | exact dq | fail) only [go_sem, n1, decide_false]))
        refine ⟨i + n, ⟨by have := hle.2 n0; omega, hmore (i + n) (by omega) (by have := hle.2 n0; omega)⟩, wk_by [] ?_, by have := hle.2 n0; omega⟩
        (simp (disch := first | exact dq | fail) only [go_sem])
  · obtain rfl : i = s.length := by omega
    have k1 : ¬ (s.length : Int) < s.length := by omega
    rw [Nat.sub_self, validG]
    (repeat' (first | refine Nx.go ?_ | fail) <;> try (simp (disch := first | exact dq | fail) only [go_sem, k1, decide_false]))
    all_goals (try omega)
end Go.Proofs.Ytnijpeeehnnipaa.AM
