
/- Chapters 11 and 12's documents: number, Entity, decoded. No condition but lengths that fit. -/
import Derived.Test.YtnijpeeehnnipaaX4
import Derived.KernelRfl
set_option linter.unusedVariables false
set_option linter.unusedSimpArgs false
set_option maxRecDepth 20000
namespace Go.Proofs.Ytnijpeeehnnipaa.AM
open Go Go.RowKit

def dA (b : Nat) : Int := if 48 ≤ b ∧ b ≤ 57 then (b : Int) - 48 else 99
def dB (b : Nat) : Int := if 97 ≤ b ∧ b ≤ 102 then (b : Int) - 97 + 10 else dA b
theorem digF_eq (b : Nat) : digF b = if 65 ≤ b ∧ b ≤ 70 then (b : Int) - 65 + 10 else dB b := rfl
theorem digF_bd (b : Nat) (h : b ≤ 255) : 0 ≤ digF b ∧ digF b ≤ 99 := by
  unfold digF
  split
  · omega
  · split
    · omega
    · split <;> omega
theorem p16 {k : Nat} (h : k ≤ 9) : (1 : Int) ≤ 16 ^ k ∧ (16 : Int) ^ k ≤ 68719476736 := by
  have h1 : 16 ^ k ≤ 16 ^ 9 := Nat.pow_le_pow_right (by decide) h
  have h2 : 0 < 16 ^ k := Nat.pow_pos (by decide)
  have e : (16 : Int) ^ k = ((16 ^ k : Nat) : Int) := by simp
  rw [e]; omega
theorem numG_bd (s : Str) (a : Nat) (base : Int) (hb : base = 10 ∨ base = 16) : ∀ f k (n : Int), f + k = 9 → 0 ≤ n → n < 16 ^ k → (0 ≤ (numG s a base f k n).1 ∧ (numG s a base f k n).1 ≤ 68719476736) ∧ (numG s a base f k n).2 ≤ 8 ∧ ((numG s a base f k n).2 ≠ 0 → a + (numG s a base f k n).2 < s.length)
  | 0, k, n, h, h0, h1 => by simp [numG]
  | f + 1, k, n, h, h0, h1 => by
    rw [numG]
    have h16 := p16 (k := k) (by omega)
    split
    · simp
    · split
      · rename_i hl hc
        refine ⟨⟨h0, by omega⟩, by simp; omega, fun _ => by simp; omega⟩
      · split
        · simp
        · rename_i hl hc hd
          have := digF_bd _ (bt_le s (a + k))
          have h2 : (16 : Int) ^ (k + 1) = 16 ^ k * 16 := Int.pow_succ _ _
          have h3 : digF (bt s (a + k)) < base := by omega
          generalize digF (bt s (a + k)) = d at *
          generalize (16 : Int) ^ k = z at *
          refine numG_bd s a base hb f (k + 1) _ (by omega) ?_ ?_
          · rcases hb with rfl | rfl <;> omega
          · rw [h2]; rcases hb with rfl | rfl <;> omega
set_option maxHeartbeats 1000000 in
theorem number_spec (s : Str) (a : Nat) (base : Int) (hb : base = 10 ∨ base = 16) (hs : s.length ≤ 1000000) (ha : a ≤ 1000010) : PCalls Try.prog 81 [stV s, .int .i64 a, .int .i64 base] (.tup [.int .i64 (numF s a base).1, .int .i64 (numF s a base).2]) := by
  unfold stV numF
  refine PCalls.of_aw Try.func81 rfl (by unfold Callable; kernel_rfl) (by kernel_rfl) (by simp [Try.ntmps81]) ?_; rw [Try.ntmps81, Try.results81]; (simp (maxSteps := 1000000) (disch := first | exact dq | fail) only [go_sem])
  (repeat' (first | refine Nx.go ?_ | fail) <;> try (simp (maxSteps := 1000000) (disch := first | exact dq | fail) only [go_sem]))
  refine aw_loop (α := Nat × Int) (fun x => ⟨70, sl [(0, .iv (.str (bs s))), (1, .iv (.int .i64 a)), (2, .iv (.int .i64 base)), (8, .iv (.int .i64 x.2)), (9, .iv (.int .i64 x.1))], [], 0⟩)
    (fun x => x.1 ≤ 9 ∧ (0 ≤ x.2 ∧ x.2 < 16 ^ x.1) ∧ numG s a base (9 - x.1) x.1 x.2 = numG s a base 9 0 0) (fun x => 9 - x.1) (0, 0) (wk_by [] ?_) ⟨by decide, by decide, rfl⟩ ?_
  · (simp (maxSteps := 1000000) (disch := first | exact dq | fail) only [go_sem])
    try rfl
  rintro ⟨k, n⟩ ⟨hk, ⟨hn0, hn1⟩, he⟩
  dsimp only at hk hn0 hn1 he
  rw [← he]
  have h16 := p16 hk
  have h2 : (16 : Int) ^ (k + 1) = 16 ^ k * 16 := Int.pow_succ _ _
  by_cases g : k ≤ 8
  · have g1 : (k : Int) ≤ 8 := by omega
    obtain ⟨f, hf⟩ : ∃ f, 9 - k = f + 1 := ⟨8 - k, by omega⟩
    have hf2 : 9 - (k + 1) = f := by omega
    rw [hf, numG]
    by_cases c1 : s.length ≤ a + k
    · have c1' : (a : Int) + k ≥ s.length := by omega
      rw [if_pos c1]
      (repeat' (first | refine Nx.go ?_ | fail) <;> try (simp (maxSteps := 1000000) (disch := first | exact dq | fail) only [go_sem, g1, c1', decide_true]))
      all_goals (try omega)
    have c1' : ¬ (a : Int) + k ≥ s.length := by omega
    have e1 : ((a : Int) + k).toNat = a + k := by omega
    have eb : (s.getD (a + k) 0).toNat = bt s (a + k) := rfl
    have hbb := bt_le s (a + k)
    rw [if_neg c1]
    generalize bt s (a + k) = b at *
    by_cases c2 : b = 59 ∧ 0 < k
    · have c2a : (b : Int) = 59 := by omega
      have c2b : (k : Int) > 0 := by omega
      rw [if_pos c2]
      (repeat' (with_reducible first | refine Nx.go ?_ | refine And.intro ?_ ?_ | fail) <;> try (simp (maxSteps := 1000000) (disch := first | exact dq | fail) only [go_sem, g1, c1', e1, eb, eq_true c2a, c2b, decide_true, decide_false]))
      all_goals (try omega)
    have hc2 : (((b : Int) = 59) = True ∧ ((k : Int) > 0) = False) ∨ (((b : Int) = 59) = False ∧ (0 = 0)) := by
      by_cases h : b = 59
      · exact .inl ⟨eq_true (by omega), eq_false (by omega)⟩
      · exact .inr ⟨eq_false (by omega), rfl⟩
    rw [if_neg c2]
    have hd := digF_bd b hbb
    have hde := digF_eq b
    generalize digF b = d at *
    rcases hc2 with ⟨c3, c4⟩ | ⟨c3, c4⟩
    all_goals (
      (iterate 22 all_goals try (with_reducible first | refine Nx.go ?_ | refine And.intro ?_ ?_ | fail) <;> try (simp (maxSteps := 1000000) (disch := first | exact dq | fail) only [go_sem, g1, c1', e1, eb, c3, c4, decide_true, decide_false]))
      all_goals (try omega)
      refine aw_cut ⟨70, sl [(0, .iv (.str (bs s))), (1, .iv (.int .i64 a)), (2, .iv (.int .i64 base)), (8, .iv (.int .i64 n)), (9, .iv (.int .i64 k)), (10, .iv (.int .i64 b)), (11, .iv (.int .i64 (dA b)))], [], 0⟩ ?_ ?_
      · unfold dA
        by_cases q : 48 ≤ b ∧ b ≤ 57
        · rw [if_pos q]
          (repeat' first
  | ((first | refine Nx.go ?_ | fail) <;> try (simp (maxSteps := 1000000) (disch := first | exact dq | fail) only [go_sem]))
  | ((with_reducible refine Sp.go ?_ ?_) <;> intro h <;> (try (simp (maxSteps := 1000000) (disch := first | exact dq | fail) only [go_sem] at h)) <;> try (simp (maxSteps := 1000000) (disch := first | exact dq | fail) only [go_sem, h])) | fail)
          all_goals (try omega)
          all_goals (first | (exfalso; omega) | (refine wk_by [] ?_; (simp (maxSteps := 1000000) (disch := first | exact dq | fail) only [go_sem])))
        · rw [if_neg q]
          (repeat' first
  | ((first | refine Nx.go ?_ | fail) <;> try (simp (maxSteps := 1000000) (disch := first | exact dq | fail) only [go_sem]))
  | ((with_reducible refine Sp.go ?_ ?_) <;> intro h <;> (try (simp (maxSteps := 1000000) (disch := first | exact dq | fail) only [go_sem] at h)) <;> try (simp (maxSteps := 1000000) (disch := first | exact dq | fail) only [go_sem, h])) | fail)
          all_goals (try omega)
          all_goals (first | (exfalso; omega) | (refine wk_by [] ?_; (simp (maxSteps := 1000000) (disch := first | exact dq | fail) only [go_sem])))
      refine aw_cut ⟨70, sl [(0, .iv (.str (bs s))), (1, .iv (.int .i64 a)), (2, .iv (.int .i64 base)), (8, .iv (.int .i64 n)), (9, .iv (.int .i64 k)), (10, .iv (.int .i64 b)), (11, .iv (.int .i64 (dB b)))], [], 0⟩ ?_ ?_
      · unfold dB
        by_cases q : 97 ≤ b ∧ b ≤ 102
        · rw [if_pos q]
          (repeat' first
  | ((first | refine Nx.go ?_ | fail) <;> try (simp (maxSteps := 1000000) (disch := first | exact dq | fail) only [go_sem]))
  | ((with_reducible refine Sp.go ?_ ?_) <;> intro h <;> (try (simp (maxSteps := 1000000) (disch := first | exact dq | fail) only [go_sem] at h)) <;> try (simp (maxSteps := 1000000) (disch := first | exact dq | fail) only [go_sem, h])) | fail)
          all_goals (try omega)
          all_goals (first | (exfalso; omega) | (refine wk_by [] ?_; (simp (maxSteps := 1000000) (disch := first | exact dq | fail) only [go_sem])))
        · rw [if_neg q]
          (repeat' first
  | ((first | refine Nx.go ?_ | fail) <;> try (simp (maxSteps := 1000000) (disch := first | exact dq | fail) only [go_sem]))
  | ((with_reducible refine Sp.go ?_ ?_) <;> intro h <;> (try (simp (maxSteps := 1000000) (disch := first | exact dq | fail) only [go_sem] at h)) <;> try (simp (maxSteps := 1000000) (disch := first | exact dq | fail) only [go_sem, h])) | fail)
          all_goals (try omega)
          all_goals (first | (exfalso; omega) | (refine wk_by [] ?_; (simp (maxSteps := 1000000) (disch := first | exact dq | fail) only [go_sem])))
      refine aw_cut ⟨70, sl [(0, .iv (.str (bs s))), (1, .iv (.int .i64 a)), (2, .iv (.int .i64 base)), (8, .iv (.int .i64 n)), (9, .iv (.int .i64 k)), (10, .iv (.int .i64 b)), (11, .iv (.int .i64 d))], [], 0⟩ ?_ ?_
      · rw [hde]
        by_cases q : 65 ≤ b ∧ b ≤ 70
        · rw [if_pos q]
          (repeat' first
  | ((first | refine Nx.go ?_ | fail) <;> try (simp (maxSteps := 1000000) (disch := first | exact dq | fail) only [go_sem]))
  | ((with_reducible refine Sp.go ?_ ?_) <;> intro h <;> (try (simp (maxSteps := 1000000) (disch := first | exact dq | fail) only [go_sem] at h)) <;> try (simp (maxSteps := 1000000) (disch := first | exact dq | fail) only [go_sem, h])) | fail)
          all_goals (try omega)
          all_goals (first | (exfalso; omega) | (refine wk_by [] ?_; (simp (maxSteps := 1000000) (disch := first | exact dq | fail) only [go_sem])))
        · rw [if_neg q]
          (repeat' first
  | ((first | refine Nx.go ?_ | fail) <;> try (simp (maxSteps := 1000000) (disch := first | exact dq | fail) only [go_sem]))
  | ((with_reducible refine Sp.go ?_ ?_) <;> intro h <;> (try (simp (maxSteps := 1000000) (disch := first | exact dq | fail) only [go_sem] at h)) <;> try (simp (maxSteps := 1000000) (disch := first | exact dq | fail) only [go_sem, h])) | fail)
          all_goals (try omega)
          all_goals (first | (exfalso; omega) | (refine wk_by [] ?_; (simp (maxSteps := 1000000) (disch := first | exact dq | fail) only [go_sem])))
      by_cases hdb : base ≤ d
      · have hdb' : d ≥ base := hdb
        rw [if_pos hdb]
        (repeat' (first | refine Nx.go ?_ | fail) <;> try (simp (maxSteps := 1000000) (disch := first | exact dq | fail) only [go_sem, hdb', decide_true]))
      · have hdb' : ¬ d ≥ base := hdb
        rw [if_neg hdb]
        have nb : 0 ≤ n * base ∧ n * base + d < 16 ^ (k + 1) ∧ n * base ≤ 1099511627776 := by
          rw [h2]
          generalize (16 : Int) ^ k = z at *
          rcases hb with rfl | rfl <;> omega
        (repeat' (first | refine Nx.go ?_ | fail) <;> try (simp (maxSteps := 1000000) (disch := first | exact dq | fail) only [go_sem, hdb', decide_false]))
        all_goals (try omega)
        refine ⟨(k + 1, n * base + d), ⟨by dsimp only; omega, ⟨by dsimp only; omega, by dsimp only; exact nb.2.1⟩, by dsimp only; rw [hf2]⟩, wk_by [] ?_, by dsimp only; omega⟩
        (simp (maxSteps := 1000000) (disch := first | exact dq | fail) only [go_sem]))
  · have g1 : ¬ (k : Int) ≤ 8 := by omega
    rw [show 9 - k = 0 by omega, numG]
    (repeat' (first | refine Nx.go ?_ | fail) <;> try (simp (maxSteps := 1000000) (disch := first | exact dq | fail) only [go_sem, g1, decide_false]))
    all_goals (try omega)
def I5 (b0 b1 b2 b3 b4 : Bool) (i : Nat) : Prop := i ≤ 5 ∧ (0 < i → b0 = false) ∧ (1 < i → b1 = false) ∧ (2 < i → b2 = false) ∧ (3 < i → b3 = false) ∧ (4 < i → b4 = false)
def I2 (A B : Prop) (k : Nat) : Prop := k ≤ 2 ∧ (0 < k → ¬ A) ∧ (1 < k → ¬ B)
set_option maxHeartbeats 4000000 in
theorem Entity_spec (s : Str) (a : Nat) (hs : s.length ≤ 1000000) (ha : a ≤ s.length) : PCalls Try.prog 74 [stV s, .int .i64 a] (.tup [stV (entF s a).1, .int .i64 (entF s a).2]) := by
  have h0 := begins11_spec s a eLT hs (by omega) (by decide)
  have h1 := begins11_spec s a eGT hs (by omega) (by decide)
  have h2 := begins11_spec s a eAMP hs (by omega) (by decide)
  have h3 := begins11_spec s a eQ hs (by omega) (by decide)
  have h4 := begins11_spec s a eA hs (by omega) (by decide)
  have h5 := begins11_spec s a mX hs (by omega) (by decide)
  have h6 := begins11_spec s a mD hs (by omega) (by decide)
  have n5 := number_spec s (a + 3) 16 (.inr rfl) hs (by omega)
  have n6 := number_spec s (a + 2) 10 (.inl rfl) hs (by omega)
  have q5 := (numG_bd s (a + 3) 16 (.inr rfl) 9 0 0 rfl (by decide) (by decide))
  have q6 := (numG_bd s (a + 2) 10 (.inl rfl) 9 0 0 rfl (by decide) (by decide))
  change _ ∧ (numF s (a + 3) 16).2 ≤ 8 ∧ _ at q5
  change _ ∧ (numF s (a + 2) 10).2 ≤ 8 ∧ _ at q6
  have q5 := q5.2.1
  have q6 := q6.2.1
  have a5 := Allowed_spec (numF s (a + 3) 16).1
  have a6 := Allowed_spec (numF s (a + 2) 10).1
  have E5 := Encode_spec (numF s (a + 3) 16).1
  have E6 := Encode_spec (numF s (a + 2) 10).1
  unfold entF numOk
  generalize bgnF s a eLT = b0 at *
  generalize bgnF s a eGT = b1 at *
  generalize bgnF s a eAMP = b2 at *
  generalize bgnF s a eQ = b3 at *
  generalize bgnF s a eA = b4 at *
  generalize bgnF s a mX = b5 at *
  generalize bgnF s a mD = b6 at *
  generalize (numF s (a + 3) 16).1 = u5 at *
  generalize (numF s (a + 3) 16).2 = k5 at *
  generalize (numF s (a + 2) 10).1 = u6 at *
  generalize (numF s (a + 2) 10).2 = k6 at *
  generalize utfF u5 = x5 at *
  generalize utfF u6 = x6 at *
  generalize allowF u5 = l5 at *
  generalize allowF u6 = l6 at *
  rw [show ((a + 3 : Nat) : Int) = (a : Int) + 3 by omega] at n5
  rw [show ((a + 2 : Nat) : Int) = (a : Int) + 2 by omega] at n6
  unfold stV eLT eGT eAMP eQ eA mX mD at *
  unfold cLT cGT cAMP cQ cA
  generalize hX : (if b0 = true then _ else _ : Str × Nat) = X
  obtain ⟨x, n⟩ := X
  refine PCalls.of_aw Try.func74 rfl (by unfold Callable; kernel_rfl) (by kernel_rfl) (by simp [Try.ntmps74]) ?_; rw [Try.ntmps74, Try.results74]; (simp (maxSteps := 1000000) (disch := first | exact dq | fail) only [go_sem])
  (repeat' (first | refine Nx.go ?_ | fail) <;> try (simp (maxSteps := 1000000) (disch := first | exact dq | fail) only [go_sem]))
  all_goals (try omega)
  refine aw_postE (β := Unit) (fun _ => ⟨81, sl [(0, .iv (.str (bs s))), (1, .iv (.int .i64 a))], [], 0⟩) (fun _ => b0 = false ∧ b1 = false ∧ b2 = false ∧ b3 = false ∧ b4 = false) ?_ ?_
  · refine aw_loop (α := Nat) (fun i => ⟨81, sl [(0, .iv (.str (bs s))), (1, .iv (.int .i64 a)), (6, .mp 0 0), (7, .mp 1 0), (8, .iv (.int .i64 i))], [.var 112 [.iv (.str (bs [38, 108, 116, 59])), .iv (.str (bs [38, 103, 116, 59])), .iv (.str (bs [38, 97, 109, 112, 59])), .iv (.str (bs [38, 113, 117, 111, 116, 59])), .iv (.str (bs [38, 97, 112, 111, 115, 59]))], .var 112 [.iv (.str (bs [60])), .iv (.str (bs [62])), .iv (.str (bs [38])), .iv (.str (bs [34])), .iv (.str (bs [39]))]], 0⟩)
      (I5 b0 b1 b2 b3 b4) (fun i => 5 - i) 0 (wk_by [0, 1] ?_) ⟨by omega, by omega, by omega, by omega, by omega, by omega⟩ ?_
    · (simp (maxSteps := 1000000) (disch := first | exact dq | fail) only [go_sem])
      try rfl
    rintro i ⟨hi, g0, g1, g2, g3, g4⟩
    match i, hi with
    | 0, _ =>
      cases b0 with
      | true =>
        rw [if_pos rfl] at hX
        cases hX
        (repeat' (first | refine Nx.go ?_ | fail) <;> try (simp (maxSteps := 1000000) (disch := first | exact dq | fail) only [go_sem]))
        ((with_reducible first | apply left_callf | apply leftD_callf | apply leftF_callf); (· with_reducible rfl); (· (simp (maxSteps := 1000000) (disch := first | exact dq | fail) only [go_sem]) <;> rfl); (· exact h0); try (simp (maxSteps := 1000000) (disch := first | exact dq | fail) only [go_sem]))
        (repeat' (with_reducible first | refine Nx.go ?_ | refine rP ?_ | fail) <;> try (simp (maxSteps := 1000000) (disch := first | exact dq | fail) only [go_sem]))
      | false =>
        (repeat' (first | refine Nx.go ?_ | fail) <;> try (simp (maxSteps := 1000000) (disch := first | exact dq | fail) only [go_sem]))
        ((with_reducible first | apply left_callf | apply leftD_callf | apply leftF_callf); (· with_reducible rfl); (· (simp (maxSteps := 1000000) (disch := first | exact dq | fail) only [go_sem]) <;> rfl); (· exact h0); try (simp (maxSteps := 1000000) (disch := first | exact dq | fail) only [go_sem]))
        (repeat' (first | refine Nx.go ?_ | fail) <;> try (simp (maxSteps := 1000000) (disch := first | exact dq | fail) only [go_sem]))
        refine ⟨1, ⟨by decide, fun _ => rfl, fun h => absurd h (by decide), fun h => absurd h (by decide), fun h => absurd h (by decide), fun h => absurd h (by decide)⟩, wk_by [0, 1] ?_, by decide⟩
        (simp (maxSteps := 1000000) (disch := first | exact dq | fail) only [go_sem])
    | 1, _ =>
      have g0 := g0 (by decide)
      subst g0
      cases b1 with
      | true =>
        rw [if_neg (by decide), if_pos rfl] at hX
        cases hX
        (repeat' (first | refine Nx.go ?_ | fail) <;> try (simp (maxSteps := 1000000) (disch := first | exact dq | fail) only [go_sem]))
        ((with_reducible first | apply left_callf | apply leftD_callf | apply leftF_callf); (· with_reducible rfl); (· (simp (maxSteps := 1000000) (disch := first | exact dq | fail) only [go_sem]) <;> rfl); (· exact h1); try (simp (maxSteps := 1000000) (disch := first | exact dq | fail) only [go_sem]))
        (repeat' (with_reducible first | refine Nx.go ?_ | refine rP ?_ | fail) <;> try (simp (maxSteps := 1000000) (disch := first | exact dq | fail) only [go_sem]))
      | false =>
        (repeat' (first | refine Nx.go ?_ | fail) <;> try (simp (maxSteps := 1000000) (disch := first | exact dq | fail) only [go_sem]))
        ((with_reducible first | apply left_callf | apply leftD_callf | apply leftF_callf); (· with_reducible rfl); (· (simp (maxSteps := 1000000) (disch := first | exact dq | fail) only [go_sem]) <;> rfl); (· exact h1); try (simp (maxSteps := 1000000) (disch := first | exact dq | fail) only [go_sem]))
        (repeat' (first | refine Nx.go ?_ | fail) <;> try (simp (maxSteps := 1000000) (disch := first | exact dq | fail) only [go_sem]))
        refine ⟨2, ⟨by decide, fun _ => rfl, fun _ => rfl, fun h => absurd h (by decide), fun h => absurd h (by decide), fun h => absurd h (by decide)⟩, wk_by [0, 1] ?_, by decide⟩
        (simp (maxSteps := 1000000) (disch := first | exact dq | fail) only [go_sem])
    | 2, _ =>
      have g0 := g0 (by decide)
      subst g0
      have g1 := g1 (by decide)
      subst g1
      cases b2 with
      | true =>
        rw [if_neg (by decide), if_neg (by decide), if_pos rfl] at hX
        cases hX
        (repeat' (first | refine Nx.go ?_ | fail) <;> try (simp (maxSteps := 1000000) (disch := first | exact dq | fail) only [go_sem]))
        ((with_reducible first | apply left_callf | apply leftD_callf | apply leftF_callf); (· with_reducible rfl); (· (simp (maxSteps := 1000000) (disch := first | exact dq | fail) only [go_sem]) <;> rfl); (· exact h2); try (simp (maxSteps := 1000000) (disch := first | exact dq | fail) only [go_sem]))
        (repeat' (with_reducible first | refine Nx.go ?_ | refine rP ?_ | fail) <;> try (simp (maxSteps := 1000000) (disch := first | exact dq | fail) only [go_sem]))
      | false =>
        (repeat' (first | refine Nx.go ?_ | fail) <;> try (simp (maxSteps := 1000000) (disch := first | exact dq | fail) only [go_sem]))
        ((with_reducible first | apply left_callf | apply leftD_callf | apply leftF_callf); (· with_reducible rfl); (· (simp (maxSteps := 1000000) (disch := first | exact dq | fail) only [go_sem]) <;> rfl); (· exact h2); try (simp (maxSteps := 1000000) (disch := first | exact dq | fail) only [go_sem]))
        (repeat' (first | refine Nx.go ?_ | fail) <;> try (simp (maxSteps := 1000000) (disch := first | exact dq | fail) only [go_sem]))
        refine ⟨3, ⟨by decide, fun _ => rfl, fun _ => rfl, fun _ => rfl, fun h => absurd h (by decide), fun h => absurd h (by decide)⟩, wk_by [0, 1] ?_, by decide⟩
        (simp (maxSteps := 1000000) (disch := first | exact dq | fail) only [go_sem])
    | 3, _ =>
      have g0 := g0 (by decide)
      subst g0
      have g1 := g1 (by decide)
      subst g1
      have g2 := g2 (by decide)
      subst g2
      cases b3 with
      | true =>
        rw [if_neg (by decide), if_neg (by decide), if_neg (by decide), if_pos rfl] at hX
        cases hX
        (repeat' (first | refine Nx.go ?_ | fail) <;> try (simp (maxSteps := 1000000) (disch := first | exact dq | fail) only [go_sem]))
        ((with_reducible first | apply left_callf | apply leftD_callf | apply leftF_callf); (· with_reducible rfl); (· (simp (maxSteps := 1000000) (disch := first | exact dq | fail) only [go_sem]) <;> rfl); (· exact h3); try (simp (maxSteps := 1000000) (disch := first | exact dq | fail) only [go_sem]))
        (repeat' (with_reducible first | refine Nx.go ?_ | refine rP ?_ | fail) <;> try (simp (maxSteps := 1000000) (disch := first | exact dq | fail) only [go_sem]))
      | false =>
        (repeat' (first | refine Nx.go ?_ | fail) <;> try (simp (maxSteps := 1000000) (disch := first | exact dq | fail) only [go_sem]))
        ((with_reducible first | apply left_callf | apply leftD_callf | apply leftF_callf); (· with_reducible rfl); (· (simp (maxSteps := 1000000) (disch := first | exact dq | fail) only [go_sem]) <;> rfl); (· exact h3); try (simp (maxSteps := 1000000) (disch := first | exact dq | fail) only [go_sem]))
        (repeat' (first | refine Nx.go ?_ | fail) <;> try (simp (maxSteps := 1000000) (disch := first | exact dq | fail) only [go_sem]))
        refine ⟨4, ⟨by decide, fun _ => rfl, fun _ => rfl, fun _ => rfl, fun _ => rfl, fun h => absurd h (by decide)⟩, wk_by [0, 1] ?_, by decide⟩
        (simp (maxSteps := 1000000) (disch := first | exact dq | fail) only [go_sem])
    | 4, _ =>
      have g0 := g0 (by decide)
      subst g0
      have g1 := g1 (by decide)
      subst g1
      have g2 := g2 (by decide)
      subst g2
      have g3 := g3 (by decide)
      subst g3
      cases b4 with
      | true =>
        rw [if_neg (by decide), if_neg (by decide), if_neg (by decide), if_neg (by decide), if_pos rfl] at hX
        cases hX
        (repeat' (first | refine Nx.go ?_ | fail) <;> try (simp (maxSteps := 1000000) (disch := first | exact dq | fail) only [go_sem]))
        ((with_reducible first | apply left_callf | apply leftD_callf | apply leftF_callf); (· with_reducible rfl); (· (simp (maxSteps := 1000000) (disch := first | exact dq | fail) only [go_sem]) <;> rfl); (· exact h4); try (simp (maxSteps := 1000000) (disch := first | exact dq | fail) only [go_sem]))
        (repeat' (with_reducible first | refine Nx.go ?_ | refine rP ?_ | fail) <;> try (simp (maxSteps := 1000000) (disch := first | exact dq | fail) only [go_sem]))
      | false =>
        (repeat' (first | refine Nx.go ?_ | fail) <;> try (simp (maxSteps := 1000000) (disch := first | exact dq | fail) only [go_sem]))
        ((with_reducible first | apply left_callf | apply leftD_callf | apply leftF_callf); (· with_reducible rfl); (· (simp (maxSteps := 1000000) (disch := first | exact dq | fail) only [go_sem]) <;> rfl); (· exact h4); try (simp (maxSteps := 1000000) (disch := first | exact dq | fail) only [go_sem]))
        (repeat' (first | refine Nx.go ?_ | fail) <;> try (simp (maxSteps := 1000000) (disch := first | exact dq | fail) only [go_sem]))
        refine ⟨5, ⟨by decide, fun _ => rfl, fun _ => rfl, fun _ => rfl, fun _ => rfl, fun _ => rfl⟩, wk_by [0, 1] ?_, by decide⟩
        (simp (maxSteps := 1000000) (disch := first | exact dq | fail) only [go_sem])
    | 5, _ =>
      (repeat' (first | refine Nx.go ?_ | fail) <;> try (simp (maxSteps := 1000000) (disch := first | exact dq | fail) only [go_sem]))
      refine ⟨(), ⟨g0 (by decide), g1 (by decide), g2 (by decide), g3 (by decide), g4 (by decide)⟩, wk_by [] ?_⟩
      (simp (maxSteps := 1000000) (disch := first | exact dq | fail) only [go_sem])
  rintro _ ⟨rfl, rfl, rfl, rfl, rfl⟩
  rw [if_neg (by decide), if_neg (by decide), if_neg (by decide), if_neg (by decide), if_neg (by decide)] at hX
  (repeat' (first | refine Nx.go ?_ | fail) <;> try (simp (maxSteps := 1000000) (disch := first | exact dq | fail) only [go_sem]))
  all_goals (try omega)
  refine aw_loop (α := Nat) (fun i => ⟨81, sl [(0, .iv (.str (bs s))), (1, .iv (.int .i64 a)), (10, .mp 0 0), (11, .mp 1 0), (12, .iv (.int .i64 i))], [.var 113 [.iv (.str (bs [38, 35, 120])), .iv (.str (bs [38, 35]))], .var 47 [.iv (.int .i64 16), .iv (.int .i64 10)]], 0⟩)
    (I2 (b5 = true ∧ (decide (0 < k5) && l5) = true) (b6 = true ∧ (decide (0 < k6) && l6) = true)) (fun i => 2 - i) 0 (wk_by [0, 1] ?_) ⟨by omega, by omega, by omega⟩ ?_
  · (simp (maxSteps := 1000000) (disch := first | exact dq | fail) only [go_sem])
    try rfl
  rintro i ⟨hi, g5, g6⟩
  match i, hi with
  | 0, _ =>
    cases b5 with
    | false =>
      (repeat' (first | refine Nx.go ?_ | fail) <;> try (simp (maxSteps := 1000000) (disch := first | exact dq | fail) only [go_sem]))
      ((with_reducible first | apply left_callf | apply leftD_callf | apply leftF_callf); (· with_reducible rfl); (· (simp (maxSteps := 1000000) (disch := first | exact dq | fail) only [go_sem]) <;> rfl); (· exact h5); try (simp (maxSteps := 1000000) (disch := first | exact dq | fail) only [go_sem]))
      (repeat' (first | refine Nx.go ?_ | fail) <;> try (simp (maxSteps := 1000000) (disch := first | exact dq | fail) only [go_sem]))
      refine ⟨1, (by unfold I2; simp_all <;> (intros; omega)), wk_by [0, 1] ?_, by decide⟩
      (simp (maxSteps := 1000000) (disch := first | exact dq | fail) only [go_sem])
    | true =>
      by_cases hk : 0 < k5
      · have hki : (k5 : Int) > 0 := by omega
        cases l5 with
        | true =>
          rw [decide_eq_true hk] at hX
          rw [if_pos ⟨rfl, rfl⟩] at hX
          cases hX
          (repeat' (first | refine Nx.go ?_ | fail) <;> try (simp (maxSteps := 1000000) (disch := first | exact dq | fail) only [go_sem]))
          ((with_reducible first | apply left_callf | apply leftD_callf | apply leftF_callf); (· with_reducible rfl); (· (simp (maxSteps := 1000000) (disch := first | exact dq | fail) only [go_sem]) <;> rfl); (· exact h5); try (simp (maxSteps := 1000000) (disch := first | exact dq | fail) only [go_sem]))
          (repeat' (with_reducible first | refine Nx.go ?_ | refine rP ?_ | fail) <;> try (simp (maxSteps := 1000000) (disch := first | exact dq | fail) only [go_sem]))
          ((with_reducible first | apply left_callf | apply leftD_callf | apply leftF_callf); (· with_reducible rfl); (· (simp (maxSteps := 1000000) (disch := first | exact dq | fail) only [go_sem]) <;> rfl); (· exact n5); try (simp (maxSteps := 1000000) (disch := first | exact dq | fail) only [go_sem]))
          (repeat' (first | refine Nx.go ?_ | fail) <;> try (simp (maxSteps := 1000000) (disch := first | exact dq | fail) only [go_sem]))
          ((with_reducible first | apply left_callf | apply leftD_callf | apply leftF_callf); (· with_reducible rfl); (· (simp (maxSteps := 1000000) (disch := first | exact dq | fail) only [go_sem]) <;> rfl); (· exact a5); try (simp (maxSteps := 1000000) (disch := first | exact dq | fail) only [go_sem]))
          (repeat' (with_reducible first | refine Nx.go ?_ | refine rP ?_ | fail) <;> try (simp (maxSteps := 1000000) (disch := first | exact dq | fail) only [go_sem, hki, decide_true]))
          ((with_reducible first | apply left_callf | apply leftD_callf | apply leftF_callf); (· with_reducible rfl); (· (simp (maxSteps := 1000000) (disch := first | exact dq | fail) only [go_sem]) <;> rfl); (· exact E5); try (simp (maxSteps := 1000000) (disch := first | exact dq | fail) only [go_sem]))
          (repeat' (first | refine Nx.go ?_ | fail) <;> try (simp (maxSteps := 1000000) (disch := first | exact dq | fail) only [go_sem]))
          all_goals (try omega)
        | false =>
          (repeat' (first | refine Nx.go ?_ | fail) <;> try (simp (maxSteps := 1000000) (disch := first | exact dq | fail) only [go_sem]))
          ((with_reducible first | apply left_callf | apply leftD_callf | apply leftF_callf); (· with_reducible rfl); (· (simp (maxSteps := 1000000) (disch := first | exact dq | fail) only [go_sem]) <;> rfl); (· exact h5); try (simp (maxSteps := 1000000) (disch := first | exact dq | fail) only [go_sem]))
          (repeat' (with_reducible first | refine Nx.go ?_ | refine rP ?_ | fail) <;> try (simp (maxSteps := 1000000) (disch := first | exact dq | fail) only [go_sem]))
          ((with_reducible first | apply left_callf | apply leftD_callf | apply leftF_callf); (· with_reducible rfl); (· (simp (maxSteps := 1000000) (disch := first | exact dq | fail) only [go_sem]) <;> rfl); (· exact n5); try (simp (maxSteps := 1000000) (disch := first | exact dq | fail) only [go_sem]))
          (repeat' (first | refine Nx.go ?_ | fail) <;> try (simp (maxSteps := 1000000) (disch := first | exact dq | fail) only [go_sem]))
          ((with_reducible first | apply left_callf | apply leftD_callf | apply leftF_callf); (· with_reducible rfl); (· (simp (maxSteps := 1000000) (disch := first | exact dq | fail) only [go_sem]) <;> rfl); (· exact a5); try (simp (maxSteps := 1000000) (disch := first | exact dq | fail) only [go_sem]))
          (repeat' (first | refine Nx.go ?_ | fail) <;> try (simp (maxSteps := 1000000) (disch := first | exact dq | fail) only [go_sem, hki, decide_true]))
          refine ⟨1, (by unfold I2; simp_all <;> (intros; omega)), wk_by [0, 1] ?_, by decide⟩
          (simp (maxSteps := 1000000) (disch := first | exact dq | fail) only [go_sem])
      · have hki : ¬ (k5 : Int) > 0 := by omega
        (repeat' (first | refine Nx.go ?_ | fail) <;> try (simp (maxSteps := 1000000) (disch := first | exact dq | fail) only [go_sem]))
        ((with_reducible first | apply left_callf | apply leftD_callf | apply leftF_callf); (· with_reducible rfl); (· (simp (maxSteps := 1000000) (disch := first | exact dq | fail) only [go_sem]) <;> rfl); (· exact h5); try (simp (maxSteps := 1000000) (disch := first | exact dq | fail) only [go_sem]))
        (repeat' (with_reducible first | refine Nx.go ?_ | refine rP ?_ | fail) <;> try (simp (maxSteps := 1000000) (disch := first | exact dq | fail) only [go_sem]))
        ((with_reducible first | apply left_callf | apply leftD_callf | apply leftF_callf); (· with_reducible rfl); (· (simp (maxSteps := 1000000) (disch := first | exact dq | fail) only [go_sem]) <;> rfl); (· exact n5); try (simp (maxSteps := 1000000) (disch := first | exact dq | fail) only [go_sem]))
        (repeat' (first | refine Nx.go ?_ | fail) <;> try (simp (maxSteps := 1000000) (disch := first | exact dq | fail) only [go_sem]))
        ((with_reducible first | apply left_callf | apply leftD_callf | apply leftF_callf); (· with_reducible rfl); (· (simp (maxSteps := 1000000) (disch := first | exact dq | fail) only [go_sem]) <;> rfl); (· exact a5); try (simp (maxSteps := 1000000) (disch := first | exact dq | fail) only [go_sem]))
        (repeat' (first | refine Nx.go ?_ | fail) <;> try (simp (maxSteps := 1000000) (disch := first | exact dq | fail) only [go_sem, hki, decide_false]))
        refine ⟨1, (by unfold I2; simp_all <;> (intros; omega)), wk_by [0, 1] ?_, by decide⟩
        (simp (maxSteps := 1000000) (disch := first | exact dq | fail) only [go_sem])
  | 1, _ =>
    have g5 := g5 (by decide)
    rw [if_neg g5] at hX
    cases b6 with
    | false =>
      (repeat' (first | refine Nx.go ?_ | fail) <;> try (simp (maxSteps := 1000000) (disch := first | exact dq | fail) only [go_sem]))
      ((with_reducible first | apply left_callf | apply leftD_callf | apply leftF_callf); (· with_reducible rfl); (· (simp (maxSteps := 1000000) (disch := first | exact dq | fail) only [go_sem]) <;> rfl); (· exact h6); try (simp (maxSteps := 1000000) (disch := first | exact dq | fail) only [go_sem]))
      (repeat' (first | refine Nx.go ?_ | fail) <;> try (simp (maxSteps := 1000000) (disch := first | exact dq | fail) only [go_sem]))
      refine ⟨2, (by unfold I2; simp_all <;> (intros; omega)), wk_by [0, 1] ?_, by decide⟩
      (simp (maxSteps := 1000000) (disch := first | exact dq | fail) only [go_sem])
    | true =>
      by_cases hk : 0 < k6
      · have hki : (k6 : Int) > 0 := by omega
        rw [decide_eq_true hk] at hX
        cases l6 with
        | true =>
          rw [if_pos ⟨rfl, rfl⟩] at hX
          cases hX
          (repeat' (first | refine Nx.go ?_ | fail) <;> try (simp (maxSteps := 1000000) (disch := first | exact dq | fail) only [go_sem]))
          ((with_reducible first | apply left_callf | apply leftD_callf | apply leftF_callf); (· with_reducible rfl); (· (simp (maxSteps := 1000000) (disch := first | exact dq | fail) only [go_sem]) <;> rfl); (· exact h6); try (simp (maxSteps := 1000000) (disch := first | exact dq | fail) only [go_sem]))
          (repeat' (with_reducible first | refine Nx.go ?_ | refine rP ?_ | fail) <;> try (simp (maxSteps := 1000000) (disch := first | exact dq | fail) only [go_sem]))
          ((with_reducible first | apply left_callf | apply leftD_callf | apply leftF_callf); (· with_reducible rfl); (· (simp (maxSteps := 1000000) (disch := first | exact dq | fail) only [go_sem]) <;> rfl); (· exact n6); try (simp (maxSteps := 1000000) (disch := first | exact dq | fail) only [go_sem]))
          (repeat' (first | refine Nx.go ?_ | fail) <;> try (simp (maxSteps := 1000000) (disch := first | exact dq | fail) only [go_sem]))
          ((with_reducible first | apply left_callf | apply leftD_callf | apply leftF_callf); (· with_reducible rfl); (· (simp (maxSteps := 1000000) (disch := first | exact dq | fail) only [go_sem]) <;> rfl); (· exact a6); try (simp (maxSteps := 1000000) (disch := first | exact dq | fail) only [go_sem]))
          (repeat' (with_reducible first | refine Nx.go ?_ | refine rP ?_ | fail) <;> try (simp (maxSteps := 1000000) (disch := first | exact dq | fail) only [go_sem, hki, decide_true]))
          ((with_reducible first | apply left_callf | apply leftD_callf | apply leftF_callf); (· with_reducible rfl); (· (simp (maxSteps := 1000000) (disch := first | exact dq | fail) only [go_sem]) <;> rfl); (· exact E6); try (simp (maxSteps := 1000000) (disch := first | exact dq | fail) only [go_sem]))
          (repeat' (first | refine Nx.go ?_ | fail) <;> try (simp (maxSteps := 1000000) (disch := first | exact dq | fail) only [go_sem]))
          all_goals (try omega)
        | false =>
          (repeat' (first | refine Nx.go ?_ | fail) <;> try (simp (maxSteps := 1000000) (disch := first | exact dq | fail) only [go_sem]))
          ((with_reducible first | apply left_callf | apply leftD_callf | apply leftF_callf); (· with_reducible rfl); (· (simp (maxSteps := 1000000) (disch := first | exact dq | fail) only [go_sem]) <;> rfl); (· exact h6); try (simp (maxSteps := 1000000) (disch := first | exact dq | fail) only [go_sem]))
          (repeat' (with_reducible first | refine Nx.go ?_ | refine rP ?_ | fail) <;> try (simp (maxSteps := 1000000) (disch := first | exact dq | fail) only [go_sem]))
          ((with_reducible first | apply left_callf | apply leftD_callf | apply leftF_callf); (· with_reducible rfl); (· (simp (maxSteps := 1000000) (disch := first | exact dq | fail) only [go_sem]) <;> rfl); (· exact n6); try (simp (maxSteps := 1000000) (disch := first | exact dq | fail) only [go_sem]))
          (repeat' (first | refine Nx.go ?_ | fail) <;> try (simp (maxSteps := 1000000) (disch := first | exact dq | fail) only [go_sem]))
          ((with_reducible first | apply left_callf | apply leftD_callf | apply leftF_callf); (· with_reducible rfl); (· (simp (maxSteps := 1000000) (disch := first | exact dq | fail) only [go_sem]) <;> rfl); (· exact a6); try (simp (maxSteps := 1000000) (disch := first | exact dq | fail) only [go_sem]))
          (repeat' (first | refine Nx.go ?_ | fail) <;> try (simp (maxSteps := 1000000) (disch := first | exact dq | fail) only [go_sem, hki, decide_true]))
          refine ⟨2, (by unfold I2; simp_all <;> (intros; omega)), wk_by [0, 1] ?_, by decide⟩
          (simp (maxSteps := 1000000) (disch := first | exact dq | fail) only [go_sem])
      · have hki : ¬ (k6 : Int) > 0 := by omega
        (repeat' (first | refine Nx.go ?_ | fail) <;> try (simp (maxSteps := 1000000) (disch := first | exact dq | fail) only [go_sem]))
        ((with_reducible first | apply left_callf | apply leftD_callf | apply leftF_callf); (· with_reducible rfl); (· (simp (maxSteps := 1000000) (disch := first | exact dq | fail) only [go_sem]) <;> rfl); (· exact h6); try (simp (maxSteps := 1000000) (disch := first | exact dq | fail) only [go_sem]))
        (repeat' (with_reducible first | refine Nx.go ?_ | refine rP ?_ | fail) <;> try (simp (maxSteps := 1000000) (disch := first | exact dq | fail) only [go_sem]))
        ((with_reducible first | apply left_callf | apply leftD_callf | apply leftF_callf); (· with_reducible rfl); (· (simp (maxSteps := 1000000) (disch := first | exact dq | fail) only [go_sem]) <;> rfl); (· exact n6); try (simp (maxSteps := 1000000) (disch := first | exact dq | fail) only [go_sem]))
        (repeat' (first | refine Nx.go ?_ | fail) <;> try (simp (maxSteps := 1000000) (disch := first | exact dq | fail) only [go_sem]))
        ((with_reducible first | apply left_callf | apply leftD_callf | apply leftF_callf); (· with_reducible rfl); (· (simp (maxSteps := 1000000) (disch := first | exact dq | fail) only [go_sem]) <;> rfl); (· exact a6); try (simp (maxSteps := 1000000) (disch := first | exact dq | fail) only [go_sem]))
        (repeat' (first | refine Nx.go ?_ | fail) <;> try (simp (maxSteps := 1000000) (disch := first | exact dq | fail) only [go_sem, hki, decide_false]))
        refine ⟨2, (by unfold I2; simp_all <;> (intros; omega)), wk_by [0, 1] ?_, by decide⟩
        (simp (maxSteps := 1000000) (disch := first | exact dq | fail) only [go_sem])
  | 2, _ =>
    rw [if_neg (g5 (by decide)), if_neg (g6 (by decide))] at hX
    cases hX
    (repeat' (first | refine Nx.go ?_ | fail) <;> try (simp (maxSteps := 1000000) (disch := first | exact dq | fail) only [go_sem]))
end Go.Proofs.Ytnijpeeehnnipaa.AM
