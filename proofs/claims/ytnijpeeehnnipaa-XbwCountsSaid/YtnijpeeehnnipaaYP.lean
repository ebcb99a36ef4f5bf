
/- Chapter 16's law XbwCounts, as a call. No condition. -/
import Derived.Test.YtnijpeeehnnipaaYM
set_option linter.unusedVariables false
set_option linter.unusedSimpArgs false
set_option maxRecDepth 20000
namespace Go.Proofs.Ytnijpeeehnnipaa.AM
open Go Go.RowKit

set_option maxHeartbeats 16000000 in
theorem XbwCounts_spec (d : ByteArray) (c : Int) : PCalls Try.prog 5 [.str d, .int .i64 c] (.bool true) := by
  rw [bs_of d]
  generalize d.data.toList = doc
  have hSh := short_spec doc 200
  have hdl : (doc.take 200).length ≤ 200 := by rw [List.length_take]; omega
  generalize doc.take 200 = D at *
  have hP := Parse_spec D (by omega)
  obtain ⟨ql, qn⟩ := parse_len D
  have hB := xbwBuild_spec (parseF D).1 (by omega) (by omega)
  have hg := parse_good D
  rw [hg] at hB
  have hC := fun i => RefChildren15_spec (parseF D).1 i (by omega)
  have hS := fun i => RefSymbol15_spec (parseF D).1 i (by omega) (by omega)
  by_cases he : (parseF D).2 = 0
  · have hT := parse_ok he
    rw [he] at hP
    generalize (parseF D).1 = t at *
    have hend := c_end hT c
    have hz := c_zero t c
    have hbd := fun i => c_bd t c i
    have hst := fun i x => @c_step t c i x
    have hol := ordL_len t
    have hlen : t.len = t.nodes.length := rfl
    have l1 : ((ordL t).map (lastB t)).length = t.nodes.length := by rw [List.length_map]; exact hol
    have l2 : ((ordL t).map (symF t)).length = t.nodes.length := by rw [List.length_map]; exact hol
    have l3 : ((ordL t).map (leafB t)).length = t.nodes.length := by rw [List.length_map]; exact hol
    have a1 : ∀ i x, (ordL t)[i]? = some x → ((ordL t).map (lastB t))[i]? = some (lastB t x) := fun i x h => by rw [List.getElem?_map, h]; rfl
    have a2 : ∀ i x, (ordL t)[i]? = some x → ((ordL t).map (symF t))[i]? = some (symF t x) := fun i x h => by rw [List.getElem?_map, h]; rfl
    have a3 : ∀ i x, (ordL t)[i]? = some x → ((ordL t).map (leafB t))[i]? = some (leafB t x) := fun i x h => by rw [List.getElem?_map, h]; rfl
    unfold rowsT at hB
    generalize (ordL t).map (lastB t) = RL at *
    generalize (ordL t).map (symF t) = RS at *
    generalize (ordL t).map (leafB t) = RF at *
    generalize (List.range (2 * t.names.length + 2)).map (fun (c : Nat) => begC t c) = B at *
    generalize ordL t = O at *
    unfold trV rwV blsV stV at *
    dsimp only at *
    refine PCalls.of_aw Try.func5 rfl (by unfold Callable; kernel_rfl) (by kernel_rfl) (by simp [Try.ntmps5]) ?_; rw [Try.ntmps5, Try.results5]; (simp (maxSteps := 1000000) (disch := first | exact dq | fail) only [go_sem])
    (repeat' (first | refine Nx.go ?_ | fail) <;> try (simp (maxSteps := 1000000) (disch := first | exact dq | fail) only [go_sem]))
    ((with_reducible first | apply left_callf | apply leftD_callf | apply leftF_callf); (· with_reducible rfl); (· (simp (maxSteps := 1000000) (disch := first | exact dq | fail) only [go_sem]) <;> rfl); (· exact awake16_spec); try (simp (maxSteps := 1000000) (disch := first | exact dq | fail) only [go_sem]))
    (repeat' (first | refine Nx.go ?_ | fail) <;> try (simp (maxSteps := 1000000) (disch := first | exact dq | fail) only [go_sem]))
    ((with_reducible first | apply left_callf | apply leftD_callf | apply leftF_callf); (· with_reducible rfl); (· (simp (maxSteps := 1000000) (disch := first | exact dq | fail) only [go_sem]) <;> rfl); (· exact hSh); try (simp (maxSteps := 1000000) (disch := first | exact dq | fail) only [go_sem]))
    (repeat' (first | refine Nx.go ?_ | fail) <;> try (simp (maxSteps := 1000000) (disch := first | exact dq | fail) only [go_sem]))
    ((with_reducible first | apply left_callf | apply leftD_callf | apply leftF_callf); (· with_reducible rfl); (· (simp (maxSteps := 1000000) (disch := first | exact dq | fail) only [go_sem]) <;> rfl); (· exact hP); try (simp (maxSteps := 1000000) (disch := first | exact dq | fail) only [go_sem]))
    (repeat' (first | refine Nx.go ?_ | fail) <;> try (simp (maxSteps := 1000000) (disch := first | exact dq | fail) only [go_sem]))
    ((with_reducible first | apply left_callf | apply leftD_callf | apply leftF_callf); (· with_reducible rfl); (· (simp (maxSteps := 1000000) (disch := first | exact dq | fail) only [go_sem]) <;> rfl); (· exact hB); try (simp (maxSteps := 1000000) (disch := first | exact dq | fail) only [go_sem]))
    (repeat' (first | refine Nx.go ?_ | fail) <;> try (simp (maxSteps := 1000000) (disch := first | exact dq | fail) only [go_sem, l1, l2, l3]))
    all_goals (try omega)
    refine aw_loop (α := Nat) (fun i => ⟨124, sl [(1, .iv (.int .i64 c)), (5, .iv (.bool true)), (6, .mp 0 0), (8, .mp 1 0), (10, .iv (.int .i64 (c1N t i))), (11, .iv (.int .i64 (c2N t i))), (12, .iv (.int .i64 (c3N t c i))), (13, .iv (.int .i64 i))], [.var 25 [.iv (.sl 1 (t.names.map fun s => IV.str (bs s))), .iv (.sl 4 (t.nodes.map ndV))], .var 31 [.iv (inl O), .iv (.sl 1 (RL.map .bool)), .iv (inl RS), .iv (.sl 1 (RF.map .bool)), .iv (inl B)]], 0⟩)
      (fun i => i ≤ t.nodes.length) (fun i => t.nodes.length - i) 0 (wk_by [0, 1] ?_) (Nat.zero_le _) ?_
    · (simp (maxSteps := 1000000) (disch := first | exact dq | fail) only [go_sem, hz.1, hz.2.1, hz.2.2])
      try rfl
    rintro i hi
    have hbi := hbd i (by omega)
    by_cases g : i < t.nodes.length
    · have g1 : (i : Int) < t.nodes.length := by omega
      obtain ⟨x, hx⟩ : ∃ x, O[i]? = some x := ⟨_, List.getElem?_eq_getElem (by omega)⟩
      obtain ⟨s1, s2, s3⟩ := hst i x hx
      have b1 := a1 i x hx
      have b2 := a2 i x hx
      have b3 := a3 i x hx
      have hCi := hC i
      have hSi := hS i
      have hcl := chT_len t i
      have hnl : nlf t i = decide (((chT t i).length : Int) > 0) := by
        unfold nlf leafB
        rw [Bool.eq_iff_iff, Bool.not_eq_true', decide_eq_false_iff_not, decide_eq_true_eq]; omega
      generalize c1N t i = z1 at *
      generalize c2N t i = z2 at *
      generalize c3N t c i = z3 at *
      generalize lastB t x = v1 at *
      generalize leafB t x = v2 at *
      rw [hnl] at s2
      generalize chT t i = ch at *
      have kc : (((ch.length : Int) > 0) = True) ∨ (((ch.length : Int) > 0) = False) := by
        by_cases h : (ch.length : Int) > 0
        · exact .inl (eq_true h)
        · exact .inr (eq_false h)
      have k2 : ((symF t x = c) = True) ∨ ((symF t x = c) = False) := by
        by_cases h : symF t x = c
        · exact .inl (eq_true h)
        · exact .inr (eq_false h)
      have k3 : ((symF t i = c) = True) ∨ ((symF t i = c) = False) := by
        by_cases h : symF t i = c
        · exact .inl (eq_true h)
        · exact .inr (eq_false h)
      rcases k2 with k2 | k2 <;> rcases k3 with k3 | k3 <;> rcases kc with kc | kc <;> cases v1 <;> cases v2
      all_goals (
        simp only [k2, k3, kc, decide_true, decide_false, if_true, if_false, Bool.false_eq_true, Int.add_zero, Int.sub_zero] at s1 s2 s3
        (repeat' (with_reducible first | refine Nx.go ?_ | refine And.intro ?_ ?_ | fail) <;> try (simp (maxSteps := 1000000) (disch := first | exact dq | fail) only [go_sem, g1, decide_true, b1, b2, b3]))
        all_goals (try omega)
        ((with_reducible first | apply left_callf | apply leftD_callf | apply leftF_callf); (· with_reducible rfl); (· (simp (maxSteps := 1000000) (disch := first | exact dq | fail) only [go_sem]) <;> rfl); (· exact hCi); try (simp (maxSteps := 1000000) (disch := first | exact dq | fail) only [go_sem]))
        (repeat' (with_reducible first | refine Nx.go ?_ | refine And.intro ?_ ?_ | fail) <;> try (simp (maxSteps := 1000000) (disch := first | exact dq | fail) only [go_sem, kc, decide_true, decide_false, b1, b2, b3, k2, Bool.not_true, Bool.not_false]))
        all_goals (try omega)
        ((with_reducible first | apply left_callf | apply leftD_callf | apply leftF_callf); (· with_reducible rfl); (· (simp (maxSteps := 1000000) (disch := first | exact dq | fail) only [go_sem]) <;> rfl); (· exact hSi); try (simp (maxSteps := 1000000) (disch := first | exact dq | fail) only [go_sem]))
        (repeat' (with_reducible first | refine Nx.go ?_ | refine And.intro ?_ ?_ | fail) <;> try (simp (maxSteps := 1000000) (disch := first | exact dq | fail) only [go_sem, k3, decide_true, decide_false, b3, Bool.not_true, Bool.not_false]))
        all_goals (try omega)
        refine ⟨i + 1, by omega, wk_by [0, 1] ?_, by omega⟩
        (simp (maxSteps := 1000000) (disch := first | exact dq | fail) only [go_sem, s1, s2, s3])
        try exact ⟨by congr 2; omega, by congr 2; omega, by congr 2; omega⟩)
    · obtain rfl : i = t.nodes.length := by omega
      have g1 : ¬ (t.nodes.length : Int) < t.nodes.length := by omega
      rw [hlen] at hend
      rw [hend.1, hend.2.1, hend.2.2]
      (repeat' (first | refine Nx.go ?_ | fail) <;> try (simp (maxSteps := 1000000) (disch := first | exact dq | fail) only [go_sem, g1, decide_false]))
      all_goals (try omega)
  · have he' := eq_false he
    generalize (parseF D).1 = t at *
    generalize (parseF D).2 = e at *
    unfold trV stV at *
    refine PCalls.of_aw Try.func5 rfl (by unfold Callable; kernel_rfl) (by kernel_rfl) (by simp [Try.ntmps5]) ?_; rw [Try.ntmps5, Try.results5]; (simp (maxSteps := 1000000) (disch := first | exact dq | fail) only [go_sem])
    (repeat' (first | refine Nx.go ?_ | fail) <;> try (simp (maxSteps := 1000000) (disch := first | exact dq | fail) only [go_sem]))
    ((with_reducible first | apply left_callf | apply leftD_callf | apply leftF_callf); (· with_reducible rfl); (· (simp (maxSteps := 1000000) (disch := first | exact dq | fail) only [go_sem]) <;> rfl); (· exact awake16_spec); try (simp (maxSteps := 1000000) (disch := first | exact dq | fail) only [go_sem]))
    (repeat' (first | refine Nx.go ?_ | fail) <;> try (simp (maxSteps := 1000000) (disch := first | exact dq | fail) only [go_sem]))
    ((with_reducible first | apply left_callf | apply leftD_callf | apply leftF_callf); (· with_reducible rfl); (· (simp (maxSteps := 1000000) (disch := first | exact dq | fail) only [go_sem]) <;> rfl); (· exact hSh); try (simp (maxSteps := 1000000) (disch := first | exact dq | fail) only [go_sem]))
    (repeat' (first | refine Nx.go ?_ | fail) <;> try (simp (maxSteps := 1000000) (disch := first | exact dq | fail) only [go_sem]))
    ((with_reducible first | apply left_callf | apply leftD_callf | apply leftF_callf); (· with_reducible rfl); (· (simp (maxSteps := 1000000) (disch := first | exact dq | fail) only [go_sem]) <;> rfl); (· exact hP); try (simp (maxSteps := 1000000) (disch := first | exact dq | fail) only [go_sem]))
    (repeat' (first | refine Nx.go ?_ | fail) <;> try (simp (maxSteps := 1000000) (disch := first | exact dq | fail) only [go_sem, he', decide_false, Bool.not_false]))
end Go.Proofs.Ytnijpeeehnnipaa.AM
