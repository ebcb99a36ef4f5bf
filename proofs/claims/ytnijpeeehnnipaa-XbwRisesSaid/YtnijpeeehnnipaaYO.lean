
/- Chapter 16's law XbwRises, as a call. No condition. -/
import Derived.Test.YtnijpeeehnnipaaYM
set_option linter.unusedVariables false
set_option linter.unusedSimpArgs false
set_option maxRecDepth 20000
namespace Go.Proofs.Ytnijpeeehnnipaa.AM
open Go Go.RowKit

set_option maxHeartbeats 8000000 in
theorem XbwRises_spec (d : ByteArray) : PCalls Try.prog 8 [.str d] (.bool true) := by
  rw [bs_of d]
  generalize d.data.toList = doc
  have hSh := short_spec doc 200
  have hdl : (doc.take 200).length ≤ 200 := by rw [List.length_take]; omega
  generalize doc.take 200 = D at *
  have hP := Parse_spec D (by omega)
  obtain ⟨ql, qn⟩ := parse_len D
  have hB := xbwBuild_spec (parseF D).1 (by omega) (by omega)
  have hO := xbwOrder_spec (parseF D).1 (by omega) (by omega)
  have hg := parse_good D
  rw [hg] at hB
  have hUp := fun a b => xbwUp_spec (parseF D).1 a b (by omega) (by omega)
  by_cases he : (parseF D).2 = 0
  · have hT := parse_ok he
    rw [he] at hP
    generalize (parseF D).1 = t at *
    have hpos := hT.pos
    have h1 := ord_first hT
    have h2 := fun i => @ord_step t i
    have hb0 := beg_first hT
    have hb1 := beg_last hT
    have hbs := fun c => @beg_step t hT c
    have hba := fun c => @begs_at t c
    have hAll := All_spec (ordL t) (by rw [ordL_len]; unfold Tr.len; omega)
    have hal : allB (ordL t) = true := stabG_all _ _
    rw [hal] at hAll
    have hol := ordL_len t
    have hlen : t.len = t.nodes.length := rfl
    have hbl : ((List.range (2 * t.names.length + 2)).map (fun (c : Nat) => begC t c)).length = 2 * t.names.length + 2 := by simp
    unfold rowsT at hB
    generalize (ordL t).map (lastB t) = RL at *
    generalize (ordL t).map (symF t) = RS at *
    generalize (ordL t).map (leafB t) = RF at *
    generalize (List.range (2 * t.names.length + 2)).map (fun (c : Nat) => begC t c) = B at *
    generalize ordL t = O at *
    unfold trV rwV blsV stV at *
    dsimp only at *
    refine PCalls.of_aw Try.func8 rfl (by unfold Callable; kernel_rfl) (by kernel_rfl) (by simp [Try.ntmps8]) ?_; rw [Try.ntmps8, Try.results8]; (simp (maxSteps := 1000000) (disch := first | exact dq | fail) only [go_sem])
    (repeat' (first | refine Nx.go ?_ | fail) <;> try (simp (maxSteps := 1000000) (disch := first | exact dq | fail) only [go_sem]))
    ((with_reducible first | apply left_callf | apply leftD_callf | apply leftF_callf); (· with_reducible rfl); (· (simp (maxSteps := 1000000) (disch := first | exact dq | fail) only [go_sem]) <;> rfl); (· exact awake16_spec); try (simp (maxSteps := 1000000) (disch := first | exact dq | fail) only [go_sem]))
    (repeat' (first | refine Nx.go ?_ | fail) <;> try (simp (maxSteps := 1000000) (disch := first | exact dq | fail) only [go_sem]))
    ((with_reducible first | apply left_callf | apply leftD_callf | apply leftF_callf); (· with_reducible rfl); (· (simp (maxSteps := 1000000) (disch := first | exact dq | fail) only [go_sem]) <;> rfl); (· exact hSh); try (simp (maxSteps := 1000000) (disch := first | exact dq | fail) only [go_sem]))
    (repeat' (first | refine Nx.go ?_ | fail) <;> try (simp (maxSteps := 1000000) (disch := first | exact dq | fail) only [go_sem]))
    ((with_reducible first | apply left_callf | apply leftD_callf | apply leftF_callf); (· with_reducible rfl); (· (simp (maxSteps := 1000000) (disch := first | exact dq | fail) only [go_sem]) <;> rfl); (· exact hP); try (simp (maxSteps := 1000000) (disch := first | exact dq | fail) only [go_sem]))
    (repeat' (first | refine Nx.go ?_ | fail) <;> try (simp (maxSteps := 1000000) (disch := first | exact dq | fail) only [go_sem]))
    ((with_reducible first | apply left_callf | apply leftD_callf | apply leftF_callf); (· with_reducible rfl); (· (simp (maxSteps := 1000000) (disch := first | exact dq | fail) only [go_sem]) <;> rfl); (· exact hO); try (simp (maxSteps := 1000000) (disch := first | exact dq | fail) only [go_sem]))
    have ho1 : (O.length : Int) = t.nodes.length := by omega
    (repeat' (first | refine Nx.go ?_ | fail) <;> try (simp (maxSteps := 1000000) (disch := first | exact dq | fail) only [go_sem, ho1]))
    ((with_reducible first | apply left_callf | apply leftD_callf | apply leftF_callf); (· with_reducible rfl); (· (simp (maxSteps := 1000000) (disch := first | exact dq | fail) only [go_sem]) <;> rfl); (· exact hAll); try (simp (maxSteps := 1000000) (disch := first | exact dq | fail) only [go_sem]))
    (repeat' (first | refine Nx.go ?_ | fail) <;> try (simp (maxSteps := 1000000) (disch := first | exact dq | fail) only [go_sem, ho1]))
    all_goals (try omega)
    refine aw_loop (α := Nat) (fun i => ⟨130, sl [(3, .iv (.bool true)), (4, .mp 0 0), (6, .iv (inl O)), (7, .iv (.int .i64 i))], [.var 25 [.iv (.sl 1 (t.names.map fun s => IV.str (bs s))), .iv (.sl 4 (t.nodes.map ndV))]], 0⟩)
      (fun i => 1 ≤ i ∧ i ≤ t.nodes.length) (fun i => t.nodes.length - i) 1 (wk_by [0] ?_) ⟨Nat.le_refl _, by omega⟩ ?_
    · (simp (maxSteps := 1000000) (disch := first | exact dq | fail) only [go_sem])
      try rfl
    rintro i ⟨hi1, hi⟩
    by_cases g : i < t.nodes.length
    · have g1 : (i : Int) < O.length := by omega
      have hs := h2 i hi1 (by omega)
      have hx1 := get_of (l := O) (k := i - 1) (by omega) rfl
      have hx2 := get_of (l := O) (k := i) (by omega) rfl
      have hu := hUp (O.getD (i - 1) 0) (O.getD i 0)
      have hm1 : ((i : Int) - 1).toNat = i - 1 := by omega
      have hc := lt_cmp hs
      generalize cmpL (upT t (O.getD (i - 1) 0)) (upT t (O.getD i 0)) = z at *
      generalize O.getD (i - 1) 0 = a at *
      generalize O.getD i 0 = b at *
      rcases hc with rfl | ⟨rfl, hab⟩
      · (repeat' (with_reducible first | refine Nx.go ?_ | refine rP ?_ | refine And.intro ?_ ?_ | fail) <;> try (simp (maxSteps := 1000000) (disch := first | exact dq | fail) only [go_sem, g1, decide_true, hm1, hx1, hx2]))
        all_goals (try omega)
        ((with_reducible first | apply left_callf | apply leftD_callf | apply leftF_callf); (· with_reducible rfl); (· (simp (maxSteps := 1000000) (disch := first | exact dq | fail) only [go_sem]) <;> rfl); (· exact hu); try (simp (maxSteps := 1000000) (disch := first | exact dq | fail) only [go_sem]))
        (repeat' (with_reducible first | refine Nx.go ?_ | refine rP ?_ | fail) <;> try (simp (maxSteps := 1000000) (disch := first | exact dq | fail) only [go_sem]))
        all_goals (try omega)
        refine ⟨i + 1, ⟨by omega, by omega⟩, wk_by [0] ?_, by omega⟩
        (simp (maxSteps := 1000000) (disch := first | exact dq | fail) only [go_sem])
        try rfl
      · have hab' : (a ≥ b) = False := eq_false (by omega)
        (repeat' (with_reducible first | refine Nx.go ?_ | refine rP ?_ | refine And.intro ?_ ?_ | fail) <;> try (simp (maxSteps := 1000000) (disch := first | exact dq | fail) only [go_sem, g1, decide_true, hm1, hx1, hx2]))
        all_goals (try omega)
        ((with_reducible first | apply left_callf | apply leftD_callf | apply leftF_callf); (· with_reducible rfl); (· (simp (maxSteps := 1000000) (disch := first | exact dq | fail) only [go_sem]) <;> rfl); (· exact hu); try (simp (maxSteps := 1000000) (disch := first | exact dq | fail) only [go_sem]))
        (repeat' (with_reducible first | refine Nx.go ?_ | refine rP ?_ | refine And.intro ?_ ?_ | fail) <;> try (simp (maxSteps := 1000000) (disch := first | exact dq | fail) only [go_sem, hm1, hx1, hx2, hab', decide_false]))
        all_goals (try omega)
        refine ⟨i + 1, ⟨by omega, by omega⟩, wk_by [0] ?_, by omega⟩
        (simp (maxSteps := 1000000) (disch := first | exact dq | fail) only [go_sem])
        try rfl
    obtain rfl : i = t.nodes.length := by omega
    have g1 : ¬ (t.nodes.length : Int) < O.length := by omega
    have hB0 := get_of (l := B) (k := 0) (by omega) ((hba 0 (by omega)).trans hb0)
    have hB1 := get_of (l := B) (k := 2 * t.names.length + 1) (by omega) ((hba (2 * t.names.length + 1) (by omega)).trans hb1)
    obtain ⟨z, hz⟩ : ∃ z : Nat, 2 * t.names.length + 1 = z := ⟨_, rfl⟩
    rw [hz] at hB1
    have hBn : (B.length : Int) - 1 = (z : Int) := by omega
    have hBz : ((B.length : Int) = 0) = False := eq_false (by omega)
    (repeat' (first | refine Nx.go ?_ | fail) <;> try (simp (maxSteps := 1000000) (disch := first | exact dq | fail) only [go_sem, g1, decide_false]))
    all_goals (try omega)
    ((with_reducible first | apply left_callf | apply leftD_callf | apply leftF_callf); (· with_reducible rfl); (· (simp (maxSteps := 1000000) (disch := first | exact dq | fail) only [go_sem]) <;> rfl); (· exact hB); try (simp (maxSteps := 1000000) (disch := first | exact dq | fail) only [go_sem]))
    rw [hlen] at hB1
    (repeat' (with_reducible first | refine Nx.go ?_ | refine rP ?_ | refine And.intro ?_ ?_ | fail) <;> try (simp (maxSteps := 1000000) (disch := first | exact dq | fail) only [go_sem, hBz, hB0, hBn, hB1, decide_false, decide_true]))
    all_goals (try omega)
    refine aw_loop (α := Nat) (fun i => ⟨130, sl [(3, .iv (.bool true)), (6, .iv (inl O)), (9, .mp 0 0), (11, .iv (.int .i64 i))], [.var 31 [.iv (inl O), .iv (.sl 1 (RL.map .bool)), .iv (inl RS), .iv (.sl 1 (RF.map .bool)), .iv (inl B)]], 0⟩)
      (fun i => 1 ≤ i ∧ i ≤ B.length) (fun i => B.length - i) 1 (wk_by [1] ?_) ⟨Nat.le_refl _, by omega⟩ ?_
    · (simp (maxSteps := 1000000) (disch := first | exact dq | fail) only [go_sem])
      try rfl
    rintro i ⟨hi1, hi⟩
    by_cases g : i < B.length
    · have g1 : (i : Int) < B.length := by omega
      have hx1 := get_of (l := B) (k := i - 1) (by omega) rfl
      have hx2 := get_of (l := B) (k := i) (by omega) rfl
      have hm1 : ((i : Int) - 1).toNat = i - 1 := by omega
      have e1 := hba (i - 1) (by omega)
      have e2 := hba i (by omega)
      have e3 := hbs (i - 1) (by omega)
      rw [Nat.sub_add_cancel hi1] at e3
      have hab : (B.getD (i - 1) 0 > B.getD i 0) = False := eq_false (by omega)
      generalize B.getD (i - 1) 0 = a at *
      generalize B.getD i 0 = b at *
      (repeat' (with_reducible first | refine Nx.go ?_ | refine rP ?_ | refine And.intro ?_ ?_ | fail) <;> try (simp (maxSteps := 1000000) (disch := first | exact dq | fail) only [go_sem, g1, decide_true, hm1, hx1, hx2, hab, decide_false]))
      all_goals (try omega)
      refine ⟨i + 1, ⟨by omega, by omega⟩, wk_by [0] ?_, by omega⟩
      (simp (maxSteps := 1000000) (disch := first | exact dq | fail) only [go_sem])
      try rfl
    · obtain rfl : i = B.length := by omega
      have g1 : ¬ (B.length : Int) < B.length := by omega
      have hx1 := get_of (l := O) (k := 0) (by omega) h1
      (repeat' (with_reducible first | refine Nx.go ?_ | refine And.intro ?_ ?_ | fail) <;> try (simp (maxSteps := 1000000) (disch := first | exact dq | fail) only [go_sem, g1, decide_false, hx1]))
      all_goals (try omega)
  · have he' := eq_false he
    generalize (parseF D).1 = t at *
    generalize (parseF D).2 = e at *
    unfold trV stV at *
    refine PCalls.of_aw Try.func8 rfl (by unfold Callable; kernel_rfl) (by kernel_rfl) (by simp [Try.ntmps8]) ?_; rw [Try.ntmps8, Try.results8]; (simp (maxSteps := 1000000) (disch := first | exact dq | fail) only [go_sem])
    (repeat' (first | refine Nx.go ?_ | fail) <;> try (simp (maxSteps := 1000000) (disch := first | exact dq | fail) only [go_sem]))
    ((with_reducible first | apply left_callf | apply leftD_callf | apply leftF_callf); (· with_reducible rfl); (· (simp (maxSteps := 1000000) (disch := first | exact dq | fail) only [go_sem]) <;> rfl); (· exact awake16_spec); try (simp (maxSteps := 1000000) (disch := first | exact dq | fail) only [go_sem]))
    (repeat' (first | refine Nx.go ?_ | fail) <;> try (simp (maxSteps := 1000000) (disch := first | exact dq | fail) only [go_sem]))
    ((with_reducible first | apply left_callf | apply leftD_callf | apply leftF_callf); (· with_reducible rfl); (· (simp (maxSteps := 1000000) (disch := first | exact dq | fail) only [go_sem]) <;> rfl); (· exact hSh); try (simp (maxSteps := 1000000) (disch := first | exact dq | fail) only [go_sem]))
    (repeat' (first | refine Nx.go ?_ | fail) <;> try (simp (maxSteps := 1000000) (disch := first | exact dq | fail) only [go_sem]))
    ((with_reducible first | apply left_callf | apply leftD_callf | apply leftF_callf); (· with_reducible rfl); (· (simp (maxSteps := 1000000) (disch := first | exact dq | fail) only [go_sem]) <;> rfl); (· exact hP); try (simp (maxSteps := 1000000) (disch := first | exact dq | fail) only [go_sem]))
    (repeat' (first | refine Nx.go ?_ | fail) <;> try (simp (maxSteps := 1000000) (disch := first | exact dq | fail) only [go_sem, he', decide_false, Bool.not_false]))
end Go.Proofs.Ytnijpeeehnnipaa.AM
