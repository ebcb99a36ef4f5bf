
/- Chapter 16's laws XbwOrder and XbwRows, as calls. No condition but a document's length. -/
import Derived.Test.YtnijpeeehnnipaaYH
set_option linter.unusedVariables false
set_option linter.unusedSimpArgs false
set_option maxRecDepth 20000
namespace Go.Proofs.Ytnijpeeehnnipaa.AM
open Go Go.RowKit

theorem cmpL_wl : ∀ a b : List Int, cmpL a b = if wl a b = true then -1 else if wl b a = true then 1 else 0
  | [], [] => rfl
  | [], _ :: _ => rfl
  | _ :: _, [] => rfl
  | x :: a, y :: b => by
    rw [cmpL, wl, wl, cmpL_wl a b]
    by_cases h1 : x < y
    · rw [if_pos h1, if_pos h1, if_pos rfl]
    · rw [if_neg h1, if_neg h1]
      by_cases h2 : y < x
      · rw [if_pos h2, if_pos h2, if_neg (by decide), if_pos h2, if_pos rfl]
      · rw [if_neg h2, if_neg h2, if_neg h2, if_neg h1]
theorem sml_len (t : Tr) : (smlT t).nodes.length ≤ 1000000 ∧ (smlT t).names.length ≤ 1000000 := by
  unfold smlT
  dsimp only
  rw [List.length_map, List.length_map, List.length_take, List.length_take]
  omega
set_option maxHeartbeats 4000000 in
theorem XbwOrder_spec (t : Tr) (a b : Int) : PCalls Try.prog 7 [trV t, .agg [.int .i64 a, .int .i64 b]] (.bool true) := by
  have hSm := small16_spec t
  obtain ⟨hl, hn⟩ := sml_len t
  generalize smlT t = s at *
  have hU := fun i => RefUp15_spec s i hl hn
  have hUl := fun i => upT_len s i
  have hlen : s.len = s.nodes.length := rfl
  have hL1 := RefLess7_spec (upT s a) (upT s b) (Nat.le_trans (hUl _) hl) (Nat.le_trans (hUl _) hl)
  have hL2 := RefLess7_spec (upT s b) (upT s a) (Nat.le_trans (hUl _) hl) (Nat.le_trans (hUl _) hl)
  have hX := xbwUp_spec s a b hl hn
  have hO := xbwOrder_spec s hl hn
  have hR := RefOrder16_spec s hl hn
  have hE := RefSameI_spec (ordL s) (ordL s) (by rw [ordL_len]; omega)
  have hc := cmpL_wl (upT s a) (upT s b)
  rw [decide_eq_true rfl] at hE
  have hUa := hU a
  have hUb := hU b
  clear hU hUl
  generalize upT s a = A at *
  generalize upT s b = B at *
  generalize ordL s = O at *
  have cs : (wl A B = true ∧ cmpL A B = -1) ∨ (wl A B = false ∧ wl B A = true ∧ cmpL A B = 1) ∨ (wl A B = false ∧ wl B A = false ∧ cmpL A B = 0) := by
    cases h1 : wl A B with
    | true => rw [h1, if_pos rfl] at hc; exact .inl ⟨rfl, hc⟩
    | false =>
      rw [h1, if_neg (by decide)] at hc
      cases h2 : wl B A with
      | true => rw [h2, if_pos rfl] at hc; exact .inr (.inl ⟨rfl, rfl, hc⟩)
      | false => rw [h2, if_neg (by decide)] at hc; exact .inr (.inr ⟨rfl, rfl, hc⟩)
  unfold trV at *
  rcases cs with ⟨w1, e⟩ | ⟨w1, w2, e⟩ | ⟨w1, w2, e⟩
  all_goals (
    rw [w1] at hL1
    (try rw [w2] at hL2)
    rw [e] at hX
    refine PCalls.of_aw Try.func7 rfl (by unfold Callable; kernel_rfl) (by kernel_rfl) (by simp [Try.ntmps7]) ?_; rw [Try.ntmps7, Try.results7]; (simp (maxSteps := 1000000) (disch := first | exact dq | fail) only [go_sem])
    (repeat' (first | refine Nx.go ?_ | fail) <;> try (simp (maxSteps := 1000000) (disch := first | exact dq | fail) only [go_sem]))
    ((with_reducible first | apply left_callf | apply leftD_callf | apply leftF_callf); (· with_reducible rfl); (· (simp (maxSteps := 1000000) (disch := first | exact dq | fail) only [go_sem]) <;> rfl); (· exact awake16_spec); try (simp (maxSteps := 1000000) (disch := first | exact dq | fail) only [go_sem]))
    (repeat' (first | refine Nx.go ?_ | fail) <;> try (simp (maxSteps := 1000000) (disch := first | exact dq | fail) only [go_sem]))
    ((with_reducible first | apply left_callf | apply leftD_callf | apply leftF_callf); (· with_reducible rfl); (· (simp (maxSteps := 1000000) (disch := first | exact dq | fail) only [go_sem]) <;> rfl); (· exact hSm); try (simp (maxSteps := 1000000) (disch := first | exact dq | fail) only [go_sem]))
    (repeat' (first | refine Nx.go ?_ | fail) <;> try (simp (maxSteps := 1000000) (disch := first | exact dq | fail) only [go_sem]))
    ((with_reducible first | apply left_callf | apply leftD_callf | apply leftF_callf); (· with_reducible rfl); (· (simp (maxSteps := 1000000) (disch := first | exact dq | fail) only [go_sem]) <;> rfl); (· exact hUa); try (simp (maxSteps := 1000000) (disch := first | exact dq | fail) only [go_sem]))
    (repeat' (first | refine Nx.go ?_ | fail) <;> try (simp (maxSteps := 1000000) (disch := first | exact dq | fail) only [go_sem]))
    ((with_reducible first | apply left_callf | apply leftD_callf | apply leftF_callf); (· with_reducible rfl); (· (simp (maxSteps := 1000000) (disch := first | exact dq | fail) only [go_sem]) <;> rfl); (· exact hUb); try (simp (maxSteps := 1000000) (disch := first | exact dq | fail) only [go_sem]))
    (repeat' (first | refine Nx.go ?_ | fail) <;> try (simp (maxSteps := 1000000) (disch := first | exact dq | fail) only [go_sem]))
    ((with_reducible first | apply left_callf | apply leftD_callf | apply leftF_callf); (· with_reducible rfl); (· (simp (maxSteps := 1000000) (disch := first | exact dq | fail) only [go_sem]) <;> rfl); (· exact hL1); try (simp (maxSteps := 1000000) (disch := first | exact dq | fail) only [go_sem]))
    (repeat' (with_reducible first | refine Nx.go ?_ | refine rP ?_ | fail) <;> try (simp (maxSteps := 1000000) (disch := first | exact dq | fail) only [go_sem]))
    try ((with_reducible first | apply left_callf | apply leftD_callf | apply leftF_callf); (· with_reducible rfl); (· (simp (maxSteps := 1000000) (disch := first | exact dq | fail) only [go_sem]) <;> rfl); (· exact hL2); try (simp (maxSteps := 1000000) (disch := first | exact dq | fail) only [go_sem]))
    try (repeat' (with_reducible first | refine Nx.go ?_ | refine rP ?_ | fail) <;> try (simp (maxSteps := 1000000) (disch := first | exact dq | fail) only [go_sem]))
    ((with_reducible first | apply left_callf | apply leftD_callf | apply leftF_callf); (· with_reducible rfl); (· (simp (maxSteps := 1000000) (disch := first | exact dq | fail) only [go_sem]) <;> rfl); (· exact hO); try (simp (maxSteps := 1000000) (disch := first | exact dq | fail) only [go_sem]))
    (repeat' (first | refine Nx.go ?_ | fail) <;> try (simp (maxSteps := 1000000) (disch := first | exact dq | fail) only [go_sem]))
    ((with_reducible first | apply left_callf | apply leftD_callf | apply leftF_callf); (· with_reducible rfl); (· (simp (maxSteps := 1000000) (disch := first | exact dq | fail) only [go_sem]) <;> rfl); (· exact hR); try (simp (maxSteps := 1000000) (disch := first | exact dq | fail) only [go_sem]))
    (repeat' (first | refine Nx.go ?_ | fail) <;> try (simp (maxSteps := 1000000) (disch := first | exact dq | fail) only [go_sem]))
    ((with_reducible first | apply left_callf | apply leftD_callf | apply leftF_callf); (· with_reducible rfl); (· (simp (maxSteps := 1000000) (disch := first | exact dq | fail) only [go_sem]) <;> rfl); (· exact hE); try (simp (maxSteps := 1000000) (disch := first | exact dq | fail) only [go_sem]))
    (repeat' (first | refine Nx.go ?_ | fail) <;> try (simp (maxSteps := 1000000) (disch := first | exact dq | fail) only [go_sem]))
    ((with_reducible first | apply left_callf | apply leftD_callf | apply leftF_callf); (· with_reducible rfl); (· (simp (maxSteps := 1000000) (disch := first | exact dq | fail) only [go_sem]) <;> rfl); (· exact hX); try (simp (maxSteps := 1000000) (disch := first | exact dq | fail) only [go_sem]))
    (repeat' (first | refine Nx.go ?_ | fail) <;> try (simp (maxSteps := 1000000) (disch := first | exact dq | fail) only [go_sem])))
theorem XbwOrder_two (t : Tr) (q : List Int) (h : q.length = 2) : PCalls Try.prog 7 [trV t, .agg (q.map (IV.int .i64))] (.bool true) := by
  match q, h with
  | [a, b], _ => exact XbwOrder_spec t a b
/-! ### trees that were read -/
theorem withG_mem (s x : Str) : ∀ l : List Str, x ∈ withG s l ↔ x = s ∨ x ∈ l
  | [] => by simp [withG]
  | y :: l => by
    rw [withG]
    split
    · simp
    · rw [List.mem_cons, withG_mem s x l, List.mem_cons]
      constructor
      · rintro (h | h | h)
        · exact .inr (.inl h)
        · exact .inl h
        · exact .inr (.inr h)
      · rintro (h | h | h)
        · exact .inr (.inl h)
        · exact .inl h
        · exact .inr (.inr h)
theorem withF_mem (s x : Str) (l : List Str) : x ∈ withF l s ↔ x = s ∨ x ∈ l := by
  unfold withF
  split
  · rename_i h
    exact ⟨.inr, fun h' => by rcases h' with rfl | h'; exact h; exact h'⟩
  · exact withG_mem s x l
theorem nmsF_mem {ns : List Nm} {i : Nat} (h3 : (ns.getD i nm0).kind ≠ 3) : ∀ n, i < n → (ns.getD i nm0).name ∈ nmsF ns n
  | 0, h => absurd h (Nat.not_lt_zero _)
  | n + 1, h => by
    rw [nmsF]
    by_cases e : i = n
    · subst e
      rw [if_neg h3]
      exact (withF_mem _ _ _).2 (.inl rfl)
    · have := nmsF_mem h3 n (by omega)
      split
      · exact this
      · exact (withF_mem _ _ _).2 (.inr this)
theorem numb_in {l : List Str} {s : Str} (h : s ∈ l) : 0 ≤ numbF l s ∧ numbF l s < l.length := by
  unfold numbF
  rw [if_pos h]
  have := List.idxOf_lt_length_of_mem h
  omega
theorem lim_sym (ns : List Nm) (i : Int) (h : 0 ≤ i ∧ i < (limF ns).1.len) : 0 ≤ symF (limF ns).1 i := by
  unfold limF at *
  split at h
  · exact absurd h.2 (by simp [tr0, Tr.len]; omega)
  rename_i c1
  rw [if_neg c1]
  split at h
  · exact absurd h.2 (by simp [tr0, Tr.len]; omega)
  rename_i c2
  rw [if_neg c2]
  split at h
  · exact absurd h.2 (by simp [tr0, Tr.len]; omega)
  rename_i c3
  rw [if_neg c3]
  unfold Tr.len at h
  dsimp only at h
  rw [List.length_map] at h
  obtain ⟨k, rfl⟩ : ∃ k : Nat, i = k := ⟨i.toNat, by omega⟩
  have hk : k < ns.length := by omega
  rw [symF_in (by dsimp only; rw [List.length_map]; exact hk)]
  have hat : Tr.at ⟨nmsF ns ns.length, ns.map (ndOf (nmsF ns ns.length))⟩ k = ndOf (nmsF ns ns.length) (ns.getD k nm0) := by
    unfold Tr.at
    simp [List.getD, List.getElem?_eq_getElem hk]
  rw [hat]
  dsimp only
  split
  · omega
  · rename_i hk2
    have h3 : (ns.getD k nm0).kind ≠ 3 := fun e => hk2 (by unfold ndOf; dsimp only; rw [e]; decide)
    have hm := numb_in (nmsF_mem h3 ns.length hk)
    have he : (ndOf (nmsF ns ns.length) (ns.getD k nm0)).name = numbF (nmsF ns ns.length) (ns.getD k nm0).name := by unfold ndOf; rw [if_neg h3]
    rw [he, if_pos hm]
    split <;> omega
theorem lim_len (ns : List Nm) : (limF ns).1.nodes.length ≤ 5000 ∧ (limF ns).1.names.length ≤ 1000 := by
  unfold limF
  split
  · exact ⟨Nat.zero_le _, Nat.zero_le _⟩
  rename_i c1
  split
  · exact ⟨Nat.zero_le _, Nat.zero_le _⟩
  split
  · exact ⟨Nat.zero_le _, Nat.zero_le _⟩
  · rename_i c3
    dsimp only
    rw [List.length_map]; omega
theorem parse_or (s : Str) : (parseF s).1 = tr0 ∨ ∃ ns, parseF s = limF ns := by
  unfold parseF
  repeat' split
  all_goals first
    | exact .inl rfl
    | exact .inr ⟨_, rfl⟩
theorem parse_len (s : Str) : (parseF s).1.nodes.length ≤ 5000 ∧ (parseF s).1.names.length ≤ 1000 := by
  rcases parse_or s with h | ⟨ns, h⟩
  · rw [h]; exact ⟨Nat.zero_le _, Nat.zero_le _⟩
  · rw [h]; exact lim_len ns
theorem parse_sym (s : Str) (i : Int) (h : 0 ≤ i ∧ i < (parseF s).1.len) : 0 ≤ symF (parseF s).1 i := by
  rcases parse_or s with e | ⟨ns, e⟩
  · rw [e] at h; exact absurd h.2 (by simp [tr0, Tr.len]; omega)
  · rw [e] at h ⊢; exact lim_sym ns i h
theorem parse_good (s : Str) : bldF (parseF s).1 = (rowsT (parseF s).1, true) := by
  unfold bldF
  rw [if_neg]
  unfold badT
  rw [List.any_eq_true]
  rintro ⟨x, hx, h⟩
  have := parse_sym s x (ordL_mem _ hx)
  rw [decide_eq_true_eq] at h
  omega
theorem rows_len (t : Tr) : (rowsT t).order.length = t.nodes.length ∧ (rowsT t).last.length = t.nodes.length ∧ (rowsT t).symbol.length = t.nodes.length ∧ (rowsT t).leaf.length = t.nodes.length ∧ (rowsT t).begins.length = 2 * t.names.length + 2 := by
  have h := ordL_len t
  unfold Tr.len at h
  unfold rowsT
  dsimp only
  rw [List.length_map, List.length_map, List.length_map, List.length_map, List.length_range]
  exact ⟨h, h, h, h, rfl⟩
theorem SameR_spec (t : Tr) (hl : t.nodes.length ≤ 1000000) (hn : t.names.length ≤ 1000000) : PCalls Try.prog 13 [rwV (bldF t).1, rwV (bldF t).1] (.bool true) := by
  obtain ⟨h1, h2, h3, h4, h5⟩ := rows_len t
  unfold bldF
  split
  · exact RwSame_spec _ (by decide) (by decide) (by decide) (by decide) (by decide)
  · exact RwSame_spec (rowsT t) (by omega) (by omega) (by omega) (by omega) (by omega)
set_option maxHeartbeats 4000000 in
theorem XbwRows_spec (t : Tr) (d : ByteArray) : PCalls Try.prog 3 [trV t, .str d] (.bool true) := by
  rw [bs_of d]
  generalize d.data.toList = doc
  have hSm := small16_spec t
  obtain ⟨hl, hn⟩ := sml_len t
  generalize smlT t = s at *
  have hB := xbwBuild_spec s hl hn
  have hR := RefBuild16_spec s hl hn
  have hS := SameR_spec s hl hn
  have hSh := short_spec doc 200
  have hdl : (doc.take 200).length ≤ 200 := by rw [List.length_take]; omega
  generalize doc.take 200 = D at *
  have hP := Parse_spec D (by omega)
  obtain ⟨ql, qn⟩ := parse_len D
  have hB2 := xbwBuild_spec (parseF D).1 (by omega) (by omega)
  have hR2 := RefBuild16_spec (parseF D).1 (by omega) (by omega)
  have hS2 := SameR_spec (parseF D).1 (by omega) (by omega)
  have hg := parse_good D
  rw [hg] at hB2 hR2 hS2
  generalize (parseF D).1 = u at *
  generalize (parseF D).2 = e at *
  generalize rowsT u = r2 at *
  generalize bldF s = X at *
  obtain ⟨r1, ok⟩ := X
  obtain ⟨o1, l1, s1, f1, b1⟩ := r1
  obtain ⟨o2, l2, s2, f2, b2⟩ := r2
  unfold trV rwV stV at *
  dsimp only at *
  cases ok
  all_goals (
    refine PCalls.of_aw Try.func3 rfl (by unfold Callable; kernel_rfl) (by kernel_rfl) (by simp [Try.ntmps3]) ?_; rw [Try.ntmps3, Try.results3]; (simp (maxSteps := 1000000) (disch := first | exact dq | fail) only [go_sem])
    (repeat' (first | refine Nx.go ?_ | fail) <;> try (simp (maxSteps := 1000000) (disch := first | exact dq | fail) only [go_sem]))
    ((with_reducible first | apply left_callf | apply leftD_callf | apply leftF_callf); (· with_reducible rfl); (· (simp (maxSteps := 1000000) (disch := first | exact dq | fail) only [go_sem]) <;> rfl); (· exact awake16_spec); try (simp (maxSteps := 1000000) (disch := first | exact dq | fail) only [go_sem]))
    (repeat' (first | refine Nx.go ?_ | fail) <;> try (simp (maxSteps := 1000000) (disch := first | exact dq | fail) only [go_sem]))
    ((with_reducible first | apply left_callf | apply leftD_callf | apply leftF_callf); (· with_reducible rfl); (· (simp (maxSteps := 1000000) (disch := first | exact dq | fail) only [go_sem]) <;> rfl); (· exact hSm); try (simp (maxSteps := 1000000) (disch := first | exact dq | fail) only [go_sem]))
    (repeat' (first | refine Nx.go ?_ | fail) <;> try (simp (maxSteps := 1000000) (disch := first | exact dq | fail) only [go_sem]))
    ((with_reducible first | apply left_callf | apply leftD_callf | apply leftF_callf); (· with_reducible rfl); (· (simp (maxSteps := 1000000) (disch := first | exact dq | fail) only [go_sem]) <;> rfl); (· exact hB); try (simp (maxSteps := 1000000) (disch := first | exact dq | fail) only [go_sem]))
    (repeat' (first | refine Nx.go ?_ | fail) <;> try (simp (maxSteps := 1000000) (disch := first | exact dq | fail) only [go_sem]))
    ((with_reducible first | apply left_callf | apply leftD_callf | apply leftF_callf); (· with_reducible rfl); (· (simp (maxSteps := 1000000) (disch := first | exact dq | fail) only [go_sem]) <;> rfl); (· exact hR); try (simp (maxSteps := 1000000) (disch := first | exact dq | fail) only [go_sem]))
    (repeat' (first | refine Nx.go ?_ | fail) <;> try (simp (maxSteps := 1000000) (disch := first | exact dq | fail) only [go_sem]))
    ((with_reducible first | apply left_callf | apply leftD_callf | apply leftF_callf); (· with_reducible rfl); (· (simp (maxSteps := 1000000) (disch := first | exact dq | fail) only [go_sem]) <;> rfl); (· exact hS); try (simp (maxSteps := 1000000) (disch := first | exact dq | fail) only [go_sem]))
    (repeat' (first | refine Nx.go ?_ | fail) <;> try (simp (maxSteps := 1000000) (disch := first | exact dq | fail) only [go_sem]))
    ((with_reducible first | apply left_callf | apply leftD_callf | apply leftF_callf); (· with_reducible rfl); (· (simp (maxSteps := 1000000) (disch := first | exact dq | fail) only [go_sem]) <;> rfl); (· exact hSh); try (simp (maxSteps := 1000000) (disch := first | exact dq | fail) only [go_sem]))
    (repeat' (first | refine Nx.go ?_ | fail) <;> try (simp (maxSteps := 1000000) (disch := first | exact dq | fail) only [go_sem]))
    ((with_reducible first | apply left_callf | apply leftD_callf | apply leftF_callf); (· with_reducible rfl); (· (simp (maxSteps := 1000000) (disch := first | exact dq | fail) only [go_sem]) <;> rfl); (· exact hP); try (simp (maxSteps := 1000000) (disch := first | exact dq | fail) only [go_sem]))
    (repeat' (first | refine Nx.go ?_ | fail) <;> try (simp (maxSteps := 1000000) (disch := first | exact dq | fail) only [go_sem]))
    ((with_reducible first | apply left_callf | apply leftD_callf | apply leftF_callf); (· with_reducible rfl); (· (simp (maxSteps := 1000000) (disch := first | exact dq | fail) only [go_sem]) <;> rfl); (· exact hB2); try (simp (maxSteps := 1000000) (disch := first | exact dq | fail) only [go_sem]))
    (repeat' (first | refine Nx.go ?_ | fail) <;> try (simp (maxSteps := 1000000) (disch := first | exact dq | fail) only [go_sem]))
    ((with_reducible first | apply left_callf | apply leftD_callf | apply leftF_callf); (· with_reducible rfl); (· (simp (maxSteps := 1000000) (disch := first | exact dq | fail) only [go_sem]) <;> rfl); (· exact hR2); try (simp (maxSteps := 1000000) (disch := first | exact dq | fail) only [go_sem]))
    (repeat' (first | refine Nx.go ?_ | fail) <;> try (simp (maxSteps := 1000000) (disch := first | exact dq | fail) only [go_sem]))
    ((with_reducible first | apply left_callf | apply leftD_callf | apply leftF_callf); (· with_reducible rfl); (· (simp (maxSteps := 1000000) (disch := first | exact dq | fail) only [go_sem]) <;> rfl); (· exact hS2); try (simp (maxSteps := 1000000) (disch := first | exact dq | fail) only [go_sem]))
    (repeat' (first | refine Nx.go ?_ | fail) <;> try (simp (maxSteps := 1000000) (disch := first | exact dq | fail) only [go_sem])))
end Go.Proofs.Ytnijpeeehnnipaa.AM
