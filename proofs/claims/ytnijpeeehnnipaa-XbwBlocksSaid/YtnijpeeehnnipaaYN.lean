
/- Chapter 16's law XbwBlocks, as a call. No condition. -/
import Derived.Test.YtnijpeeehnnipaaYM
set_option linter.unusedVariables false
set_option linter.unusedSimpArgs false
set_option maxRecDepth 20000
namespace Go.Proofs.Ytnijpeeehnnipaa.AM
open Go Go.RowKit

set_option maxHeartbeats 16000000 in
theorem XbwBlocks_spec (d : ByteArray) : PCalls Try.prog 6 [.str d] (.bool true) := by
  rw [bs_of d]
  generalize d.data.toList = doc
  have hSh := short_spec doc 200
  have hdl : (doc.take 200).length ≤ 200 := by rw [List.length_take]; omega
  generalize doc.take 200 = D at *
  have hP := Parse_spec D (by omega)
  obtain ⟨ql, qn⟩ := parse_len D
  have hB := xbwBuild_spec (parseF D).1 (by omega) (by omega)
  have hg := parse_good D
  rw [hg] at hB
  have hC := fun i => RefChildren15_spec (parseF D).1 i (by omega)
  have hS := fun i => RefSymbol15_spec (parseF D).1 i (by omega) (by omega)
  have hPa := fun i => RefParent15_spec (parseF D).1 i (by omega)
  by_cases he : (parseF D).2 = 0
  · have hT := parse_ok he
    rw [he] at hP
    generalize (parseF D).1 = t at *
    have hbs := fun c => @beg_step t hT c
    have hbi := fun c => @beg_in t hT c
    have hba := fun c => @begs_at t c
    have hbk := fun c => @blk_at t hT c
    have hmb := mny_blk t
    have hml := mnyN_le t
    have hol := ordL_len t
    have hlen : t.len = t.nodes.length := rfl
    have hbl : ((List.range (2 * t.names.length + 2)).map (fun (c : Nat) => begC t c)).length = 2 * t.names.length + 2 := by simp
    unfold rowsT at hB
    generalize (ordL t).map (lastB t) = RL at *
    generalize (ordL t).map (symF t) = RS at *
    generalize (ordL t).map (leafB t) = RF at *
    generalize (List.range (2 * t.names.length + 2)).map (fun (c : Nat) => begC t c) = B at *
    generalize ordL t = O at *
    unfold trV rwV blsV stV at *
    dsimp only at *
    have c1 : (B.length : Int) = 2 * t.names.length + 2 := by omega
    have c2 : (O.length : Int) = t.nodes.length := by omega
    refine PCalls.of_aw Try.func6 rfl (by unfold Callable; kernel_rfl) (by kernel_rfl) (by simp [Try.ntmps6]) ?_; rw [Try.ntmps6, Try.results6]; (simp (maxSteps := 1000000) (disch := first | exact dq | fail) only [go_sem])
    (repeat' (first | refine Nx.go ?_ | fail) <;> try (simp (maxSteps := 1000000) (disch := first | exact dq | fail) only [go_sem]))
    ((with_reducible first | apply left_callf | apply leftD_callf | apply leftF_callf); (· with_reducible rfl); (· (simp (maxSteps := 1000000) (disch := first | exact dq | fail) only [go_sem]) <;> rfl); (· exact awake16_spec); try (simp (maxSteps := 1000000) (disch := first | exact dq | fail) only [go_sem]))
    (repeat' (first | refine Nx.go ?_ | fail) <;> try (simp (maxSteps := 1000000) (disch := first | exact dq | fail) only [go_sem]))
    ((with_reducible first | apply left_callf | apply leftD_callf | apply leftF_callf); (· with_reducible rfl); (· (simp (maxSteps := 1000000) (disch := first | exact dq | fail) only [go_sem]) <;> rfl); (· exact hSh); try (simp (maxSteps := 1000000) (disch := first | exact dq | fail) only [go_sem]))
    (repeat' (first | refine Nx.go ?_ | fail) <;> try (simp (maxSteps := 1000000) (disch := first | exact dq | fail) only [go_sem]))
    ((with_reducible first | apply left_callf | apply leftD_callf | apply leftF_callf); (· with_reducible rfl); (· (simp (maxSteps := 1000000) (disch := first | exact dq | fail) only [go_sem]) <;> rfl); (· exact hP); try (simp (maxSteps := 1000000) (disch := first | exact dq | fail) only [go_sem]))
    (repeat' (first | refine Nx.go ?_ | fail) <;> try (simp (maxSteps := 1000000) (disch := first | exact dq | fail) only [go_sem]))
    ((with_reducible first | apply left_callf | apply leftD_callf | apply leftF_callf); (· with_reducible rfl); (· (simp (maxSteps := 1000000) (disch := first | exact dq | fail) only [go_sem]) <;> rfl); (· exact hB); try (simp (maxSteps := 1000000) (disch := first | exact dq | fail) only [go_sem]))
    (repeat' (first | refine Nx.go ?_ | fail) <;> try (simp (maxSteps := 1000000) (disch := first | exact dq | fail) only [go_sem, c1, c2]))
    all_goals (try omega)
    refine aw_loop (α := Nat) (fun c => ⟨127, sl [(3, .iv (.bool true)), (4, .mp 0 0), (6, .mp 1 0), (8, .iv (.int .i64 c))], [.var 25 [.iv (.sl 1 (t.names.map fun s => IV.str (bs s))), .iv (.sl 4 (t.nodes.map ndV))], .var 31 [.iv (inl O), .iv (.sl 1 (RL.map .bool)), .iv (inl RS), .iv (.sl 1 (RF.map .bool)), .iv (inl B)]], 0⟩)
      (fun c => c + 1 ≤ B.length) (fun c => B.length - c) 0 (wk_by [0, 1] ?_) (by omega) ?_
    · (simp (maxSteps := 1000000) (disch := first | exact dq | fail) only [go_sem])
      try rfl
    rintro c hc
    by_cases g : c + 1 < B.length
    · have g1 : (c : Int) + 1 < B.length := by omega
      have e1 := hba c (by omega)
      have e2 := hba (c + 1) (by omega)
      have e3 := hbs c (by omega)
      have e4 := hbi c (by omega)
      have e5 := hbi (c + 1) (by omega)
      have hx1 := get_of (l := B) (k := c) (by omega) e1
      have hx2 := get_of (l := B) (k := c + 1) (by omega) e2
      have hbkc := fun k => @hbk c (by omega) k
      have hmc := hmb c
      have hmi := hml c
      generalize begC t c = b1 at *
      generalize begC t (c + 1 : Nat) = b2 at *
      obtain ⟨p1, rfl⟩ : ∃ p : Nat, b1 = p := ⟨b1.toNat, by omega⟩
      obtain ⟨p2, rfl⟩ : ∃ p : Nat, b2 = p := ⟨b2.toNat, by omega⟩
      have hc1 : ((c : Int) + 1).toNat = c + 1 := by omega
      (repeat' (first | refine Nx.go ?_ | fail) <;> try (simp (maxSteps := 1000000) (disch := first | exact dq | fail) only [go_sem, g1, decide_true]))
      all_goals (try omega)
      refine aw_loop (α := Nat) (fun i => ⟨127, sl [(3, .iv (.bool true)), (4, .mp 0 0), (6, .mp 1 0), (8, .iv (.int .i64 c)), (9, .iv (.int .i64 (mnyN t c i))), (10, .iv (.int .i64 i))], [.var 25 [.iv (.sl 1 (t.names.map fun s => IV.str (bs s))), .iv (.sl 4 (t.nodes.map ndV))], .var 31 [.iv (inl O), .iv (.sl 1 (RL.map .bool)), .iv (inl RS), .iv (.sl 1 (RF.map .bool)), .iv (inl B)]], 0⟩)
        (fun i => i ≤ t.nodes.length) (fun i => t.nodes.length - i) 0 (wk_by [0, 1] ?_) (Nat.zero_le _) ?_
      · (simp (maxSteps := 1000000) (disch := first | exact dq | fail) only [go_sem])
        try rfl
      rintro i hi
      by_cases h : i < t.nodes.length
      · have g2 : (i : Int) < t.nodes.length := by omega
        have hm1 : mnyN t c (i + 1) = mnyN t c i + (if symF t i = c then (chT t i).length else 0) := rfl
        have hm2 := hmi i
        have hm3 : i * t.len ≤ 5000 * 5000 := Nat.mul_le_mul (by omega) (by omega)
        have hcl := chT_len t i
        have hCi := hC i
        generalize chT t i = ch at *
        by_cases k : symF t i = c
        · rw [if_pos k] at hm1
          (repeat' (first | refine Nx.go ?_ | fail) <;> try (simp (maxSteps := 1000000) (disch := first | exact dq | fail) only [go_sem, g2, decide_true]))
          all_goals (try omega)
          ((with_reducible first | apply left_callf | apply leftD_callf | apply leftF_callf); (· with_reducible rfl); (· (simp (maxSteps := 1000000) (disch := first | exact dq | fail) only [go_sem]) <;> rfl); (· exact hS i); try (simp (maxSteps := 1000000) (disch := first | exact dq | fail) only [go_sem]))
          (repeat' (first | refine Nx.go ?_ | fail) <;> try (simp (maxSteps := 1000000) (disch := first | exact dq | fail) only [go_sem, eq_true k, decide_true]))
          all_goals (try omega)
          ((with_reducible first | apply left_callf | apply leftD_callf | apply leftF_callf); (· with_reducible rfl); (· (simp (maxSteps := 1000000) (disch := first | exact dq | fail) only [go_sem]) <;> rfl); (· exact hCi); try (simp (maxSteps := 1000000) (disch := first | exact dq | fail) only [go_sem]))
          (repeat' (first | refine Nx.go ?_ | fail) <;> try (simp (maxSteps := 1000000) (disch := first | exact dq | fail) only [go_sem]))
          all_goals (try omega)
          refine ⟨i + 1, by omega, wk_by [0, 1] ?_, by omega⟩
          (simp (maxSteps := 1000000) (disch := first | exact dq | fail) only [go_sem, hm1])
          try rfl
        · rw [if_neg k] at hm1
          (repeat' (first | refine Nx.go ?_ | fail) <;> try (simp (maxSteps := 1000000) (disch := first | exact dq | fail) only [go_sem, g2, decide_true]))
          all_goals (try omega)
          ((with_reducible first | apply left_callf | apply leftD_callf | apply leftF_callf); (· with_reducible rfl); (· (simp (maxSteps := 1000000) (disch := first | exact dq | fail) only [go_sem]) <;> rfl); (· exact hS i); try (simp (maxSteps := 1000000) (disch := first | exact dq | fail) only [go_sem]))
          (repeat' (first | refine Nx.go ?_ | fail) <;> try (simp (maxSteps := 1000000) (disch := first | exact dq | fail) only [go_sem, eq_false k, decide_false]))
          all_goals (try omega)
          refine ⟨i + 1, by omega, wk_by [0, 1] ?_, by omega⟩
          (simp (maxSteps := 1000000) (disch := first | exact dq | fail) only [go_sem, hm1])
          try rfl
      obtain rfl : i = t.nodes.length := by omega
      have g2 : ¬ (t.nodes.length : Int) < t.nodes.length := by omega
      rw [hlen] at hmc
      rw [hmc]
      have hdf : ((p2 : Int) - p1 = (Blk t c).length) = True := eq_true (by omega)
      have hbl2 : (Blk t c).length ≤ 5000 := by omega
      (repeat' (with_reducible first | refine Nx.go ?_ | refine rP ?_ | refine And.intro ?_ ?_ | fail) <;> try (simp (maxSteps := 1000000) (disch := first | exact dq | fail) only [go_sem, g2, decide_false, hx1, hx2, hc1, hdf, decide_true]))
      all_goals (try omega)
      refine aw_loop (α := Nat) (fun k => ⟨127, sl [(3, .iv (.bool true)), (4, .mp 0 0), (6, .mp 1 0), (8, .iv (.int .i64 c)), (11, .iv (.int .i64 k))], [.var 25 [.iv (.sl 1 (t.names.map fun s => IV.str (bs s))), .iv (.sl 4 (t.nodes.map ndV))], .var 31 [.iv (inl O), .iv (.sl 1 (RL.map .bool)), .iv (inl RS), .iv (.sl 1 (RF.map .bool)), .iv (inl B)]], 0⟩)
        (fun k => p1 ≤ k ∧ k ≤ p2) (fun k => p2 - k) p1 (wk_by [0, 1] ?_) ⟨Nat.le_refl _, by omega⟩ ?_
      · (simp (maxSteps := 1000000) (disch := first | exact dq | fail) only [go_sem])
        try rfl
      rintro k ⟨hk1, hk2⟩
      by_cases h3 : k < p2
      · have g3 : (k : Int) < p2 := by omega
        have hbk1 := hbkc k (by omega) (by omega)
        obtain ⟨x, hx⟩ : ∃ x, O.getD k 0 = x := ⟨_, rfl⟩
        rw [hx] at hbk1
        have hxo := get_of (l := O) (k := k) (by omega) hx
        have hPx := hPa x
        have hSx := hS (parF t x)
        rw [hbk1] at hSx
        (repeat' first
  | ((with_reducible first | refine Nx.go ?_ | refine rP ?_ | refine And.intro ?_ ?_ | fail) <;> try (simp (maxSteps := 1000000) (disch := first | exact dq | fail) only [go_sem, g3, decide_true, hx2, hc1, hxo]))
  | ((with_reducible refine Sp.go ?_ ?_) <;> intro h <;> (try (simp (maxSteps := 1000000) (disch := first | exact dq | fail) only [go_sem] at h)) <;> try (simp (maxSteps := 1000000) (disch := first | exact dq | fail) only [go_sem, h, g3, decide_true, hx2, hc1, hxo])) | fail)
        all_goals (try omega)
        ((with_reducible first | apply left_callf | apply leftD_callf | apply leftF_callf); (· with_reducible rfl); (· (simp (maxSteps := 1000000) (disch := first | exact dq | fail) only [go_sem]) <;> rfl); (· exact hPx); try (simp (maxSteps := 1000000) (disch := first | exact dq | fail) only [go_sem]))
        (repeat' (first | refine Nx.go ?_ | fail) <;> try (simp (maxSteps := 1000000) (disch := first | exact dq | fail) only [go_sem]))
        ((with_reducible first | apply left_callf | apply leftD_callf | apply leftF_callf); (· with_reducible rfl); (· (simp (maxSteps := 1000000) (disch := first | exact dq | fail) only [go_sem]) <;> rfl); (· exact hSx); try (simp (maxSteps := 1000000) (disch := first | exact dq | fail) only [go_sem]))
        (repeat' (first | refine Nx.go ?_ | fail) <;> try (simp (maxSteps := 1000000) (disch := first | exact dq | fail) only [go_sem]))
        all_goals (try omega)
        refine ⟨k + 1, ⟨by omega, by omega⟩, wk_by [0, 1] ?_, by omega⟩
        (simp (maxSteps := 1000000) (disch := first | exact dq | fail) only [go_sem])
        try rfl
      · obtain rfl : k = p2 := by omega
        have g3 : ¬ (k : Int) < k := by omega
        (repeat' (with_reducible first | refine Nx.go ?_ | refine And.intro ?_ ?_ | fail) <;> try (simp (maxSteps := 1000000) (disch := first | exact dq | fail) only [go_sem, g3, decide_false, hx2, hc1]))
        all_goals (try omega)
        refine ⟨c + 1, by omega, wk_by [0, 1] ?_, by omega⟩
        (simp (maxSteps := 1000000) (disch := first | exact dq | fail) only [go_sem])
        try rfl
    · obtain rfl : c = B.length - 1 := by omega
      have g1 : ¬ ((B.length - 1 : Nat) : Int) + 1 < B.length := by omega
      (repeat' (first | refine Nx.go ?_ | fail) <;> try (simp (maxSteps := 1000000) (disch := first | exact dq | fail) only [go_sem, g1, decide_false]))
      all_goals (try omega)
  · have he' := eq_false he
    generalize (parseF D).1 = t at *
    generalize (parseF D).2 = e at *
    unfold trV stV at *
    refine PCalls.of_aw Try.func6 rfl (by unfold Callable; kernel_rfl) (by kernel_rfl) (by simp [Try.ntmps6]) ?_; rw [Try.ntmps6, Try.results6]; (simp (maxSteps := 1000000) (disch := first | exact dq | fail) only [go_sem])
    (repeat' (first | refine Nx.go ?_ | fail) <;> try (simp (maxSteps := 1000000) (disch := first | exact dq | fail) only [go_sem]))
    ((with_reducible first | apply left_callf | apply leftD_callf | apply leftF_callf); (· with_reducible rfl); (· (simp (maxSteps := 1000000) (disch := first | exact dq | fail) only [go_sem]) <;> rfl); (· exact awake16_spec); try (simp (maxSteps := 1000000) (disch := first | exact dq | fail) only [go_sem]))
    (repeat' (first | refine Nx.go ?_ | fail) <;> try (simp (maxSteps := 1000000) (disch := first | exact dq | fail) only [go_sem]))
    ((with_reducible first | apply left_callf | apply leftD_callf | apply leftF_callf); (· with_reducible rfl); (· (simp (maxSteps := 1000000) (disch := first | exact dq | fail) only [go_sem]) <;> rfl); (· exact hSh); try (simp (maxSteps := 1000000) (disch := first | exact dq | fail) only [go_sem]))
    (repeat' (first | refine Nx.go ?_ | fail) <;> try (simp (maxSteps := 1000000) (disch := first | exact dq | fail) only [go_sem]))
    ((with_reducible first | apply left_callf | apply leftD_callf | apply leftF_callf); (· with_reducible rfl); (· (simp (maxSteps := 1000000) (disch := first | exact dq | fail) only [go_sem]) <;> rfl); (· exact hP); try (simp (maxSteps := 1000000) (disch := first | exact dq | fail) only [go_sem]))
    (repeat' (first | refine Nx.go ?_ | fail) <;> try (simp (maxSteps := 1000000) (disch := first | exact dq | fail) only [go_sem, he', decide_false, Bool.not_false]))
end Go.Proofs.Ytnijpeeehnnipaa.AM
