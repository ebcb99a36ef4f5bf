
/- Chapter 13's document: Parse. No condition but lengths that fit. -/
import Derived.Test.YtnijpeeehnnipaaXG
set_option linter.unusedVariables false
set_option linter.unusedSimpArgs false
set_option maxRecDepth 20000
namespace Go.Proofs.Ytnijpeeehnnipaa.AM
open Go Go.RowKit

theorem lexF_vals (s : Str) : Vals 262144 (lexF s).1 := by
  unfold lexF
  split
  · exact Vals.nil _
  · split
    · exact Vals.nil _
    · split
      · exact Vals.nil _
      · have h2 := lexG_vals s s.length 0 [] (Vals.nil _)
        exact fun t ht => Nat.le_trans (h2 t ht) (by omega)
theorem txtG_len {n : Nat} {l : List Tk} (h : Vals n l) : ∀ f i s, (txtG l f i s).1.length ≤ s.length + n * f
  | 0, i, s => by rw [txtG]; exact Nat.le_add_right _ _
  | f + 1, i, s => by
    rw [txtG, Nat.mul_succ]
    split
    · rename_i c
      have h1 := h _ (memT c.1)
      have := txtG_len h f (i + 1) (if (l.getD i tk0).kind = 6 then s ++ (l.getD i tk0).val else s)
      have h2 : (if (l.getD i tk0).kind = 6 then s ++ (l.getD i tk0).val else s).length ≤ s.length + n := by
        split
        · rw [List.length_append]; omega
        · omega
      generalize n * f = z at *
      omega
    · show s.length ≤ _
      omega
def parseF (s : Str) : Tr × Int :=
  if (lexF s).2 ≠ 0 then (tr0, (lexF s).2)
  else if spcF (txtF (lexF s).1 0).1 = false ∨ (elemG (lexF s).1 3001 (txtF (lexF s).1 0).2 (-1) []).2.2 = false then (tr0, 15)
  else if spcF (txtF (lexF s).1 (elemG (lexF s).1 3001 (txtF (lexF s).1 0).2 (-1) []).2.1).1 = false ∨ (txtF (lexF s).1 (elemG (lexF s).1 3001 (txtF (lexF s).1 0).2 (-1) []).2.1).2 < (lexF s).1.length then (tr0, 15)
  else limF (elemG (lexF s).1 3001 (txtF (lexF s).1 0).2 (-1) []).1
theorem elem0_spec (l : List Tk) (hl : Shrt l) (i : Nat) (hi : i ≤ l.length) : MCalls Try.prog 32
    [.iv (tksV l), .iv (.int .i64 i), .iv (.int .i64 (-1)), .nilsl, .iv (.int .i64 0)] [] (elmPost (elemG l 3001 i (-1) [])) [nmRow (elemG l 3001 i (-1) []).1] := by
  have h := elem_spec l hl 3001 i (-1) [] (Nat.le_refl _) hi (Nat.zero_le _)
  refine MCalls.ofNil (T := 76) (sz := 5) h (fun x hx => ?_)
  simp only [List.mem_cons, List.not_mem_nil, or_false] at hx
  rcases hx with rfl | rfl | rfl | rfl | rfl
  · exact .inr ⟨_, rfl⟩
  · exact .inr ⟨_, rfl⟩
  · exact .inr ⟨_, rfl⟩
  · exact .inl rfl
  · exact .inr ⟨_, rfl⟩
set_option maxHeartbeats 4000000 in
theorem Parse_spec (s : Str) (hs : s.length ≤ 1000000) : PCalls Try.prog 14 [stV s] (.tup [trV (parseF s).1, .int .i64 (parseF s).2]) := by
  have hL := Lex_spec s hs
  unfold parseF
  obtain ⟨hsh, hln⟩ := lexF_shrt s
  generalize hX : (if (lexF s).2 ≠ 0 then (tr0, (lexF s).2) else _) = X
  unfold stV at *
  by_cases c : (lexF s).2 = 0
  · rw [if_neg (fun h => h c)] at hX
    rw [c] at hL
    have hv : Vals 262144 (lexF s).1 := lexF_vals s
    generalize (lexF s).1 = l at *
    have t1 := texts_spec l 0 hsh (Nat.zero_le _)
    have b1 := txtF_bd l 0 (Nat.zero_le _)
    have n1 : (txtF l 0).1.length ≤ 262144 * 65536 := Nat.le_trans (txtG_len hv l.length 0 []) (by simp only [List.length_nil]; omega)
    generalize txtF l 0 = T at *
    obtain ⟨x, i⟩ := T
    dsimp only at t1 b1 n1 hX
    have s1 := spaces_spec x (by omega)
    have e1 := elem0_spec l hsh i b1.2.1
    have eb := elemG_bd l 3001 i (-1) [] b1.2.1 (Nat.zero_le _)
    have eg := elemG_grow l 3001 i (-1) [] (by simp)
    generalize elemG l 3001 i (-1) [] = E at *
    obtain ⟨ns, k, ok⟩ := E
    obtain ⟨eb1, eb2, eb3, eb4⟩ := eb
    dsimp only at e1 eb1 eb2 eb3 eg hX
    unfold elmPost at e1
    dsimp only at e1 eb4
    have t2 := texts_spec l k hsh eb2
    have n2 : (txtF l k).1.length ≤ 262144 * 65536 := Nat.le_trans (txtG_len hv l.length k []) (by simp only [List.length_nil]; omega)
    generalize txtF l k = U at *
    obtain ⟨y, j⟩ := U
    dsimp only at t2 n2 hX
    have s2 := spaces_spec y (by omega)
    have lm := limited_spec ns (by omega) (eg.2 (fun i h => absurd h (Nat.not_lt_zero _)))
    unfold tksV stV at *
    unfold nmsV at lm
    refine PCalls.of_awS Try.func14 rfl (by unfold Callable; kernel_rfl) (by kernel_rfl) (by simp [Try.ntmps14]) ?_; rw [Try.ntmps14, Try.results14]; (simp (maxSteps := 1000000) (disch := first | exact dq | fail) only [go_sem])
    (repeat' (first | refine Nx.go ?_ | fail) <;> try (simp (maxSteps := 1000000) (disch := first | exact dq | fail) only [go_sem]))
    ((with_reducible first | apply left_callf | apply leftD_callf | apply leftF_callf); (· with_reducible rfl); (· (simp (maxSteps := 1000000) (disch := first | exact dq | fail) only [go_sem]) <;> rfl); (· exact hL); try (simp (maxSteps := 1000000) (disch := first | exact dq | fail) only [go_sem]))
    (repeat' (first | refine Nx.go ?_ | fail) <;> try (simp (maxSteps := 1000000) (disch := first | exact dq | fail) only [go_sem]))
    all_goals (try omega)
    ((with_reducible first | apply left_callf | apply leftD_callf | apply leftF_callf); (· with_reducible rfl); (· (simp (maxSteps := 1000000) (disch := first | exact dq | fail) only [go_sem]) <;> rfl); (· exact t1); try (simp (maxSteps := 1000000) (disch := first | exact dq | fail) only [go_sem]))
    (repeat' (first | refine Nx.go ?_ | fail) <;> try (simp (maxSteps := 1000000) (disch := first | exact dq | fail) only [go_sem]))
    ((with_reducible first | apply left_callf | apply leftD_callf | apply leftF_callf); (· with_reducible rfl); (· (simp (maxSteps := 1000000) (disch := first | exact dq | fail) only [go_sem]) <;> rfl); (· exact s1); try (simp (maxSteps := 1000000) (disch := first | exact dq | fail) only [go_sem]))
    (repeat' (first | refine Nx.go ?_ | fail) <;> try (simp (maxSteps := 1000000) (disch := first | exact dq | fail) only [go_sem]))
    ((first | with_reducible refine left_callMs [] (e1) ?_ ?_ | with_reducible refine leftD_callMs [] rfl (e1) ?_ ?_ | with_reducible refine leftD_callRs [] (by decide) (e1) ?_ ?_); (· (simp (maxSteps := 1000000) (disch := first | exact dq | fail) only [go_sem])); try (simp (maxSteps := 1000000) (disch := first | exact dq | fail) only [go_sem]))
    refine aw_wk (s' := ⟨66, sl [(2, .mp 0 0), (4, .iv (.sl 5 (l.map tkV))), (8, .iv (.bool (spcF x))), (9, .iv (.sl 5 (ns.map nmV))), (10, .iv (.int .i64 k)), (11, .iv (.bool ok))], [.var 25 [.nilsl, .nilsl]], 0⟩) (Wk.trans (wk_frz (i := 9) (y := .sl 5 (ns.map nmV)) (M' := [.var 25 [.nilsl, .nilsl], .row false 76 5 (ns.map nmV)]) ?_) (wk_by [0] ?_)) ?_
    · (simp (maxSteps := 1000000) (disch := first | exact dq | fail) only [go_sem])
      rw [if_pos (Nat.le_refl _), List.take_of_length_le (by rw [List.length_map]; exact Nat.le_refl _)]
    · (simp (maxSteps := 1000000) (disch := first | exact dq | fail) only [go_sem])
    cases hsx : spcF x <;> cases ok
    · rw [hsx, if_pos (.inl rfl)] at hX
      subst hX
      unfold trV tr0
      (repeat' (first | refine Nx.go ?_ | fail) <;> try (simp (maxSteps := 1000000) (disch := first | exact dq | fail) only [go_sem]))
      all_goals (try omega)
      exact sq_tr0 _
    · rw [if_pos (.inl hsx)] at hX
      subst hX
      unfold trV tr0
      (repeat' (first | refine Nx.go ?_ | fail) <;> try (simp (maxSteps := 1000000) (disch := first | exact dq | fail) only [go_sem]))
      all_goals (try omega)
      exact sq_tr0 _
    · rw [if_pos (.inr rfl)] at hX
      subst hX
      unfold trV tr0
      (repeat' (first | refine Nx.go ?_ | fail) <;> try (simp (maxSteps := 1000000) (disch := first | exact dq | fail) only [go_sem]))
      all_goals (try omega)
      exact sq_tr0 _
    · rw [if_neg (fun h => by rcases h with h | h; (rw [hsx] at h; cases h); cases h)] at hX
      (repeat' (first | refine Nx.go ?_ | fail) <;> try (simp (maxSteps := 1000000) (disch := first | exact dq | fail) only [go_sem]))
      all_goals (try omega)
      ((with_reducible first | apply left_callf | apply leftD_callf | apply leftF_callf); (· with_reducible rfl); (· (simp (maxSteps := 1000000) (disch := first | exact dq | fail) only [go_sem]) <;> rfl); (· exact t2); try (simp (maxSteps := 1000000) (disch := first | exact dq | fail) only [go_sem]))
      (repeat' (first | refine Nx.go ?_ | fail) <;> try (simp (maxSteps := 1000000) (disch := first | exact dq | fail) only [go_sem]))
      ((with_reducible first | apply left_callf | apply leftD_callf | apply leftF_callf); (· with_reducible rfl); (· (simp (maxSteps := 1000000) (disch := first | exact dq | fail) only [go_sem]) <;> rfl); (· exact s2); try (simp (maxSteps := 1000000) (disch := first | exact dq | fail) only [go_sem]))
      by_cases cj : j < l.length
      · rw [if_pos (.inr cj)] at hX
        subst hX
        have cj' : ((j : Int) < l.length) = True := eq_true (by omega)
        unfold trV tr0
        cases hsy : spcF y
        all_goals (
          (repeat' (first | refine Nx.go ?_ | fail) <;> try (simp (maxSteps := 1000000) (disch := first | exact dq | fail) only [go_sem, cj', decide_true]))
          all_goals (try omega)
          exact sq_tr0 _)
      · have cj' : ((j : Int) < l.length) = False := eq_false (by omega)
        cases hsy : spcF y with
        | false =>
          rw [if_pos (.inl hsy)] at hX
          subst hX
          unfold trV tr0
          (repeat' (first | refine Nx.go ?_ | fail) <;> try (simp (maxSteps := 1000000) (disch := first | exact dq | fail) only [go_sem, cj', decide_false]))
          all_goals (try omega)
          exact sq_tr0 _
        | true =>
          rw [if_neg (fun h => by rcases h with h | h; (rw [hsy] at h; cases h); exact cj h)] at hX
          subst hX
          (repeat' (first | refine Nx.go ?_ | fail) <;> try (simp (maxSteps := 1000000) (disch := first | exact dq | fail) only [go_sem, cj', decide_false]))
          all_goals (try omega)
          generalize limF ns = Q at *
          unfold trV at *
          ((with_reducible first | apply left_callf | apply leftD_callf | apply leftF_callf); (· with_reducible rfl); (· (simp (maxSteps := 1000000) (disch := first | exact dq | fail) only [go_sem]) <;> rfl); (· exact lm); try (simp (maxSteps := 1000000) (disch := first | exact dq | fail) only [go_sem]))
          (repeat' (first | refine Nx.go ?_ | fail) <;> try (simp (maxSteps := 1000000) (disch := first | exact dq | fail) only [go_sem]))
          exact Sq.refl _
  · rw [if_pos c] at hX
    subst hX
    unfold trV tr0 tksV at *
    have c1 := eq_false c
    refine PCalls.of_awS Try.func14 rfl (by unfold Callable; kernel_rfl) (by kernel_rfl) (by simp [Try.ntmps14]) ?_; rw [Try.ntmps14, Try.results14]; (simp (maxSteps := 1000000) (disch := first | exact dq | fail) only [go_sem])
    (repeat' (first | refine Nx.go ?_ | fail) <;> try (simp (maxSteps := 1000000) (disch := first | exact dq | fail) only [go_sem]))
    ((with_reducible first | apply left_callf | apply leftD_callf | apply leftF_callf); (· with_reducible rfl); (· (simp (maxSteps := 1000000) (disch := first | exact dq | fail) only [go_sem]) <;> rfl); (· exact hL); try (simp (maxSteps := 1000000) (disch := first | exact dq | fail) only [go_sem]))
    (repeat' (first | refine Nx.go ?_ | fail) <;> try (simp (maxSteps := 1000000) (disch := first | exact dq | fail) only [go_sem, c1, decide_false, decide_true, Bool.not_false]))
    all_goals (try omega)
    exact sq_tr0 _
end Go.Proofs.Ytnijpeeehnnipaa.AM
