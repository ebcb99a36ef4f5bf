
/- Chapter 16's law XbwGroups, as a call. No condition. -/
import Derived.Test.YtnijpeeehnnipaaYM
set_option linter.unusedVariables false
set_option linter.unusedSimpArgs false
set_option maxRecDepth 20000
namespace Go.Proofs.Ytnijpeeehnnipaa.AM
open Go Go.RowKit

def ahdN (t : Tr) (c : Int) (j : Nat) : Nat := ((ordL t).take j).countP (fun p => decide (symF t p = c) && nlf t p)
theorem ahd_step (t : Tr) (c : Int) {j : Nat} {x : Int} (h : (ordL t)[j]? = some x) : ahdN t c (j + 1) = ahdN t c j + (if (decide (symF t x = c) && nlf t x) = true then 1 else 0) := cnt_take h
theorem ahd_le (t : Tr) (c : Int) (j : Nat) : ahdN t c j ≤ j := cnt_tb _ _ _
theorem group_sum {t : Tr} (ht : TOk t) {k c : Nat} (hk : k < t.len) (hc : symF t ((ordL t).getD k 0) = c) :
    ∃ (p1 s : Nat) (A : Nat → Nat), begC t c = p1 ∧ p1 + s + (chT t ((ordL t).getD k 0)).length ≤ t.len ∧ A 0 = ahdN t c k ∧ A s = 0 ∧ (∀ q, q ≤ s → A q ≤ t.len) ∧
      (∀ q, q < s → 0 < A q ∧ ∃ b : Bool, ((ordL t).map (lastB t))[p1 + q]? = some b ∧ A q = A (q + 1) + (if b = true then 1 else 0)) ∧
      ∀ j, j < (chT t ((ordL t).getD k 0)).length → (ordL t)[p1 + s + j]? = some ((chT t ((ordL t).getD k 0)).getD j 0) ∧ ((ordL t).map (lastB t))[p1 + s + j]? = some (decide (j + 1 = (chT t ((ordL t).getD k 0)).length)) := by
  have hcl := symF_le t ((ordL t).getD k 0)
  obtain ⟨rest, hO⟩ := group_at ht hk hc
  have hL : (ordL t).map (lastB t) = (fstB t c).map (lastB t) ++ ((aheadL t k c).flatMap (lstM t) ++ ((chT t ((ordL t).getD k 0)).map (lastB t) ++ rest.map (lastB t))) := by
    conv => lhs; rw [hO]
    rw [List.map_append, List.map_append, List.map_append, map_flat]
  have hsl : ((aheadL t k c).flatMap (lstM t)).length = ((aheadL t k c).flatMap (chT t)).length := by rw [← map_flat, List.length_map]
  have hlen : (fstB t c).length + (((aheadL t k c).flatMap (chT t)).length + ((chT t ((ordL t).getD k 0)).length + rest.length)) = t.len := by
    have := congrArg List.length hO
    rw [ordL_len, List.length_append, List.length_append, List.length_append] at this
    omega
  refine ⟨(fstB t c).length, ((aheadL t k c).flatMap (chT t)).length, fun q => (((aheadL t k c).flatMap (lstM t)).drop q).countP id, fstB_len ht (by omega), by omega, ?_, ?_, fun q hq => ?_, fun q hq => ⟨seg_end t _ q (by omega), ?_⟩, fun j hj => ⟨?_, ?_⟩⟩
  · dsimp only
    rw [List.drop_zero, seg_cnt, ahead_cnt]; rfl
  · dsimp only
    rw [List.drop_of_length_le (by omega)]; rfl
  · exact Nat.le_trans List.countP_le_length (by rw [List.length_drop]; omega)
  · have hq' : q < ((aheadL t k c).flatMap (lstM t)).length := by omega
    refine ⟨((aheadL t k c).flatMap (lstM t))[q], ?_, ?_⟩
    · rw [hL, List.getElem?_append_right (by rw [List.length_map]; omega), List.getElem?_append_left (by rw [List.length_map]; omega), List.length_map, Nat.add_sub_cancel_left, List.getElem?_eq_getElem hq']
    · dsimp only
      rw [List.drop_eq_getElem_cons hq', List.countP_cons]
      rfl
  · conv => lhs; rw [hO]
    rw [List.getElem?_append_right (by omega), List.getElem?_append_right (by omega), List.getElem?_append_left (by omega)]
    rw [show (fstB t c).length + ((aheadL t k c).flatMap (chT t)).length + j - (fstB t c).length - ((aheadL t k c).flatMap (chT t)).length = j by omega]
    rw [getD_el hj]
    exact List.getElem?_eq_getElem hj
  · rw [hL, List.getElem?_append_right (by rw [List.length_map]; omega), List.getElem?_append_right (by rw [List.length_map]; omega), List.getElem?_append_left (by rw [List.length_map, List.length_map]; omega), List.length_map]
    rw [show (fstB t c).length + ((aheadL t k c).flatMap (chT t)).length + j - (fstB t c).length - ((aheadL t k c).flatMap (lstM t)).length = j by omega]
    rw [List.getElem?_map, List.getElem?_eq_getElem hj, Option.map_some, ← getD_el hj, last_at hj]
set_option maxHeartbeats 16000000 in
theorem XbwGroups_spec (d : ByteArray) : PCalls Try.prog 4 [.str d] (.bool true) := by
  rw [bs_of d]
  generalize d.data.toList = doc
  have hSh := short_spec doc 200
  have hdl : (doc.take 200).length ≤ 200 := by rw [List.length_take]; omega
  generalize doc.take 200 = D at *
  have hP := Parse_spec D (by omega)
  obtain ⟨ql, qn⟩ := parse_len D
  have hB := xbwBuild_spec (parseF D).1 (by omega) (by omega)
  have hg := parse_good D
  rw [hg] at hB
  have hC := fun i => RefChildren15_spec (parseF D).1 i (by omega)
  have hS := fun i => RefSymbol15_spec (parseF D).1 i (by omega) (by omega)
  by_cases he : (parseF D).2 = 0
  · have hT := parse_ok he
    rw [he] at hP
    generalize (parseF D).1 = t at *
    have hgs := fun k c => @group_sum t hT k c
    have hba := fun c => @begs_at t c
    have hsy := hT.sym
    have hsl := symF_le t
    have hom := fun x => @ordL_mem t x
    have hah := fun c j x => @ahd_step t c j x
    have hal := ahd_le t
    have hal0 : ∀ c, ahdN t c 0 = 0 := fun c => rfl
    have hAll := All_spec (ordL t) (by rw [ordL_len]; unfold Tr.len; omega)
    have hal2 : allB (ordL t) = true := stabG_all _ _
    rw [hal2] at hAll
    have hol := ordL_len t
    have hlen : t.len = t.nodes.length := rfl
    have l1 : ((ordL t).map (lastB t)).length = t.nodes.length := by rw [List.length_map]; exact hol
    have l2 : ((ordL t).map (symF t)).length = t.nodes.length := by rw [List.length_map]; exact hol
    have l3 : ((ordL t).map (leafB t)).length = t.nodes.length := by rw [List.length_map]; exact hol
    have a2 : ∀ i x, (ordL t)[i]? = some x → ((ordL t).map (symF t))[i]? = some (symF t x) := fun i x h => by rw [List.getElem?_map, h]; rfl
    have a3 : ∀ i x, (ordL t)[i]? = some x → ((ordL t).map (leafB t))[i]? = some (leafB t x) := fun i x h => by rw [List.getElem?_map, h]; rfl
    have hbl : ((List.range (2 * t.names.length + 2)).map (fun (c : Nat) => begC t c)).length = 2 * t.names.length + 2 := by simp
    unfold rowsT at hB
    generalize (ordL t).map (lastB t) = RL at *
    generalize (ordL t).map (symF t) = RS at *
    generalize (ordL t).map (leafB t) = RF at *
    generalize (List.range (2 * t.names.length + 2)).map (fun (c : Nat) => begC t c) = B at *
    generalize ordL t = O at *
    unfold trV rwV blsV stV at *
    dsimp only at *
    have c1 : (B.length : Int) = 2 * t.names.length + 2 := by omega
    have c2 : (O.length : Int) = t.nodes.length := by omega
    refine PCalls.of_aw Try.func4 rfl (by unfold Callable; kernel_rfl) (by kernel_rfl) (by simp [Try.ntmps4]) ?_; rw [Try.ntmps4, Try.results4]; (simp (maxSteps := 1000000) (disch := first | exact dq | fail) only [go_sem])
    (repeat' (first | refine Nx.go ?_ | fail) <;> try (simp (maxSteps := 1000000) (disch := first | exact dq | fail) only [go_sem]))
    ((with_reducible first | apply left_callf | apply leftD_callf | apply leftF_callf); (· with_reducible rfl); (· (simp (maxSteps := 1000000) (disch := first | exact dq | fail) only [go_sem]) <;> rfl); (· exact awake16_spec); try (simp (maxSteps := 1000000) (disch := first | exact dq | fail) only [go_sem]))
    (repeat' (first | refine Nx.go ?_ | fail) <;> try (simp (maxSteps := 1000000) (disch := first | exact dq | fail) only [go_sem]))
    ((with_reducible first | apply left_callf | apply leftD_callf | apply leftF_callf); (· with_reducible rfl); (· (simp (maxSteps := 1000000) (disch := first | exact dq | fail) only [go_sem]) <;> rfl); (· exact hSh); try (simp (maxSteps := 1000000) (disch := first | exact dq | fail) only [go_sem]))
    (repeat' (first | refine Nx.go ?_ | fail) <;> try (simp (maxSteps := 1000000) (disch := first | exact dq | fail) only [go_sem]))
    ((with_reducible first | apply left_callf | apply leftD_callf | apply leftF_callf); (· with_reducible rfl); (· (simp (maxSteps := 1000000) (disch := first | exact dq | fail) only [go_sem]) <;> rfl); (· exact hP); try (simp (maxSteps := 1000000) (disch := first | exact dq | fail) only [go_sem]))
    (repeat' (first | refine Nx.go ?_ | fail) <;> try (simp (maxSteps := 1000000) (disch := first | exact dq | fail) only [go_sem]))
    ((with_reducible first | apply left_callf | apply leftD_callf | apply leftF_callf); (· with_reducible rfl); (· (simp (maxSteps := 1000000) (disch := first | exact dq | fail) only [go_sem]) <;> rfl); (· exact hB); try (simp (maxSteps := 1000000) (disch := first | exact dq | fail) only [go_sem]))
    (repeat' (first | refine Nx.go ?_ | fail) <;> try (simp (maxSteps := 1000000) (disch := first | exact dq | fail) only [go_sem, c1, c2, l1, l2, l3]))
    all_goals (try omega)
    ((with_reducible first | apply left_callf | apply leftD_callf | apply leftF_callf); (· with_reducible rfl); (· (simp (maxSteps := 1000000) (disch := first | exact dq | fail) only [go_sem]) <;> rfl); (· exact hAll); try (simp (maxSteps := 1000000) (disch := first | exact dq | fail) only [go_sem]))
    (repeat' (first | refine Nx.go ?_ | fail) <;> try (simp (maxSteps := 1000000) (disch := first | exact dq | fail) only [go_sem]))
    all_goals (try omega)
    refine aw_loop (α := Nat) (fun k => ⟨212, sl [(3, .iv (.bool true)), (4, .mp 0 0), (6, .mp 1 0), (8, .iv (.int .i64 t.nodes.length)), (9, .iv (.int .i64 k))], [.var 25 [.iv (.sl 1 (t.names.map fun s => IV.str (bs s))), .iv (.sl 4 (t.nodes.map ndV))], .var 31 [.iv (inl O), .iv (.sl 1 (RL.map .bool)), .iv (inl RS), .iv (.sl 1 (RF.map .bool)), .iv (inl B)]], 0⟩)
      (fun k => k ≤ t.nodes.length) (fun k => t.nodes.length - k) 0 (wk_by [0, 1] ?_) (by omega) ?_
    · (simp (maxSteps := 1000000) (disch := first | exact dq | fail) only [go_sem])
      try rfl
    rintro k hk
    by_cases g : k < t.nodes.length
    · have g1 : (k : Int) < t.nodes.length := by omega
      obtain ⟨x, hx⟩ : ∃ x, O.getD k 0 = x := ⟨_, rfl⟩
      have hxo := get_of (l := O) (k := k) (by omega) hx
      have hxm := hom x (List.mem_of_getElem? hxo)
      have hx0 := hsy x hxm.1 hxm.2
      have hxl := hsl x
      obtain ⟨c, hc⟩ : ∃ c : Nat, symF t x = c := ⟨(symF t x).toNat, by omega⟩
      obtain ⟨p1, s, A, e1, e2, e3, e4, e5, e6, e7⟩ := hgs k c (by omega) (by rw [hx]; exact hc)
      rw [hx] at e2 e7
      have b2 := a2 k x hxo
      have b3 := a3 k x hxo
      rw [hc] at b2
      have hSx := hS x
      rw [hc] at hSx
      have hCx := hC x
      have hlf : leafB t x = decide (((chT t x).length : Int) = 0) := by unfold leafB; exact decide_eq_decide.2 (by omega)
      rw [hlf] at b3
      have hBx := get_of (l := B) (k := c) (by omega) ((hba c (by omega)).trans e1)
      generalize chT t x = ch at *
      by_cases hz : (ch.length : Int) = 0
      · rw [decide_eq_true hz] at b3
        (repeat' (with_reducible first | refine Nx.go ?_ | refine rP ?_ | refine And.intro ?_ ?_ | fail) <;> try (simp (maxSteps := 1000000) (disch := first | exact dq | fail) only [go_sem, g1, decide_true, b2, b3, hxo]))
        all_goals (try omega)
        ((with_reducible first | apply left_callf | apply leftD_callf | apply leftF_callf); (· with_reducible rfl); (· (simp (maxSteps := 1000000) (disch := first | exact dq | fail) only [go_sem]) <;> rfl); (· exact hCx); try (simp (maxSteps := 1000000) (disch := first | exact dq | fail) only [go_sem]))
        (repeat' (with_reducible first | refine Nx.go ?_ | refine rP ?_ | refine And.intro ?_ ?_ | fail) <;> try (simp (maxSteps := 1000000) (disch := first | exact dq | fail) only [go_sem, b3, hxo, eq_true hz, decide_true]))
        all_goals (try omega)
        ((with_reducible first | apply left_callf | apply leftD_callf | apply leftF_callf); (· with_reducible rfl); (· (simp (maxSteps := 1000000) (disch := first | exact dq | fail) only [go_sem]) <;> rfl); (· exact hSx); try (simp (maxSteps := 1000000) (disch := first | exact dq | fail) only [go_sem]))
        (repeat' (with_reducible first | refine Nx.go ?_ | refine And.intro ?_ ?_ | fail) <;> try (simp (maxSteps := 1000000) (disch := first | exact dq | fail) only [go_sem, b3]))
        all_goals (try omega)
        refine ⟨k + 1, by omega, wk_by [0, 1] ?_, by omega⟩
        (simp (maxSteps := 1000000) (disch := first | exact dq | fail) only [go_sem])
        try rfl
      · rw [decide_eq_false hz] at b3
        (repeat' (with_reducible first | refine Nx.go ?_ | refine rP ?_ | refine And.intro ?_ ?_ | fail) <;> try (simp (maxSteps := 1000000) (disch := first | exact dq | fail) only [go_sem, g1, decide_true, b2, b3, hxo]))
        all_goals (try omega)
        ((with_reducible first | apply left_callf | apply leftD_callf | apply leftF_callf); (· with_reducible rfl); (· (simp (maxSteps := 1000000) (disch := first | exact dq | fail) only [go_sem]) <;> rfl); (· exact hCx); try (simp (maxSteps := 1000000) (disch := first | exact dq | fail) only [go_sem]))
        (repeat' (with_reducible first | refine Nx.go ?_ | refine rP ?_ | refine And.intro ?_ ?_ | fail) <;> try (simp (maxSteps := 1000000) (disch := first | exact dq | fail) only [go_sem, b3, hxo, eq_false hz, decide_false]))
        all_goals (try omega)
        ((with_reducible first | apply left_callf | apply leftD_callf | apply leftF_callf); (· with_reducible rfl); (· (simp (maxSteps := 1000000) (disch := first | exact dq | fail) only [go_sem]) <;> rfl); (· exact hSx); try (simp (maxSteps := 1000000) (disch := first | exact dq | fail) only [go_sem]))
        (repeat' (with_reducible first | refine Nx.go ?_ | refine And.intro ?_ ?_ | fail) <;> try (simp (maxSteps := 1000000) (disch := first | exact dq | fail) only [go_sem, b3]))
        all_goals (try omega)
        refine aw_loop (α := Nat) (fun j => ⟨212, sl [(3, .iv (.bool true)), (4, .mp 0 0), (6, .mp 1 0), (8, .iv (.int .i64 t.nodes.length)), (9, .iv (.int .i64 k)), (10, .iv (.int .i64 c)), (11, .iv (inl ch)), (12, .iv (.int .i64 (ahdN t c j))), (13, .iv (.int .i64 j))], [.var 25 [.iv (.sl 1 (t.names.map fun s => IV.str (bs s))), .iv (.sl 4 (t.nodes.map ndV))], .var 31 [.iv (inl O), .iv (.sl 1 (RL.map .bool)), .iv (inl RS), .iv (.sl 1 (RF.map .bool)), .iv (inl B)]], 0⟩)
          (fun j => j ≤ k) (fun j => k - j) 0 (wk_by [0, 1] ?_) (Nat.zero_le _) ?_
        · (simp (maxSteps := 1000000) (disch := first | exact dq | fail) only [go_sem])
          try rfl
        rintro j hj
        by_cases h : j < k
        · have g2 : (j : Int) < k := by omega
          obtain ⟨y, hy⟩ : ∃ y, O[j]? = some y := ⟨_, List.getElem?_eq_getElem (by omega)⟩
          have d2 := a2 j y hy
          have d3 := a3 j y hy
          have ha := hah c j y hy
          have hle := hal c j
          have hnl : nlf t y = !leafB t y := rfl
          rw [hnl] at ha
          generalize leafB t y = lf at *
          by_cases hs : symF t y = c
          · rw [decide_eq_true hs, Bool.true_and] at ha
            cases lf
            all_goals (
              simp only [Bool.not_true, Bool.not_false, if_true, Bool.false_eq_true, if_false, Nat.add_zero] at ha
              (repeat' (with_reducible first | refine Nx.go ?_ | refine And.intro ?_ ?_ | fail) <;> try (simp (maxSteps := 1000000) (disch := first | exact dq | fail) only [go_sem, g2, decide_true, d2, d3, eq_true hs, Bool.not_true, Bool.not_false]))
              all_goals (try omega)
              refine ⟨j + 1, by omega, wk_by [0, 1] ?_, by omega⟩
              (simp (maxSteps := 1000000) (disch := first | exact dq | fail) only [go_sem, ha])
              try rfl)
          · rw [decide_eq_false hs, Bool.false_and, if_neg (by decide), Nat.add_zero] at ha
            (repeat' (with_reducible first | refine Nx.go ?_ | refine And.intro ?_ ?_ | fail) <;> try (simp (maxSteps := 1000000) (disch := first | exact dq | fail) only [go_sem, g2, decide_true, d2, d3, eq_false hs, decide_false]))
            all_goals (try omega)
            refine ⟨j + 1, by omega, wk_by [0, 1] ?_, by omega⟩
            (simp (maxSteps := 1000000) (disch := first | exact dq | fail) only [go_sem, ha])
            try rfl
        obtain rfl : j = k := by omega
        have g2 : ¬ (j : Int) < j := by omega
        rw [← e3]
        (repeat' (with_reducible first | refine Nx.go ?_ | refine And.intro ?_ ?_ | fail) <;> try (simp (maxSteps := 1000000) (disch := first | exact dq | fail) only [go_sem, g2, decide_false, hBx]))
        all_goals (try omega)
        refine aw_loop (α := Nat) (fun q => ⟨212, sl [(3, .iv (.bool true)), (4, .mp 0 0), (6, .mp 1 0), (8, .iv (.int .i64 t.nodes.length)), (9, .iv (.int .i64 j)), (11, .iv (inl ch)), (12, .iv (.int .i64 (A q))), (14, .iv (.int .i64 ((p1 + q : Nat) : Int)))], [.var 25 [.iv (.sl 1 (t.names.map fun s => IV.str (bs s))), .iv (.sl 4 (t.nodes.map ndV))], .var 31 [.iv (inl O), .iv (.sl 1 (RL.map .bool)), .iv (inl RS), .iv (.sl 1 (RF.map .bool)), .iv (inl B)]], 0⟩)
          (fun q => q ≤ s) (fun q => s - q) 0 (wk_by [0, 1] ?_) (Nat.zero_le _) ?_
        · (simp (maxSteps := 1000000) (disch := first | exact dq | fail) only [go_sem])
          try rfl
        rintro q hq
        by_cases h : q < s
        · obtain ⟨f1, b, f2, f3⟩ := e6 q h
          have f4 := e5 q hq
          obtain ⟨w, hw⟩ : ∃ w : Nat, p1 + q = w := ⟨_, rfl⟩
          have hw1 : p1 + (q + 1) = w + 1 := by omega
          rw [hw] at f2 ⊢
          have g3 : (A q : Int) > 0 := by omega
          cases b
          · rw [if_neg (by decide), Nat.add_zero] at f3
            (repeat' first
  | ((with_reducible first | refine Nx.go ?_ | refine And.intro ?_ ?_ | fail) <;> try (simp (maxSteps := 1000000) (disch := first | exact dq | fail) only [go_sem, g3, decide_true, f2]))
  | ((with_reducible refine Sp.go ?_ ?_) <;> intro h <;> (try (simp (maxSteps := 1000000) (disch := first | exact dq | fail) only [go_sem] at h)) <;> try (simp (maxSteps := 1000000) (disch := first | exact dq | fail) only [go_sem, h, g3, decide_true, f2])) | fail)
            all_goals (try omega)
            refine ⟨q + 1, by omega, wk_by [0, 1] ?_, by omega⟩
            (simp (maxSteps := 1000000) (disch := first | exact dq | fail) only [go_sem, f3])
            exact congrArg (fun z => AV.iv (.int .i64 z)) (by omega)
          · rw [if_pos rfl] at f3
            have f5 : ((A q : Nat) : Int) - 1 = A (q + 1) := by omega
            (repeat' first
  | ((with_reducible first | refine Nx.go ?_ | refine And.intro ?_ ?_ | fail) <;> try (simp (maxSteps := 1000000) (disch := first | exact dq | fail) only [go_sem, g3, decide_true, f2, f5]))
  | ((with_reducible refine Sp.go ?_ ?_) <;> intro h <;> (try (simp (maxSteps := 1000000) (disch := first | exact dq | fail) only [go_sem] at h)) <;> try (simp (maxSteps := 1000000) (disch := first | exact dq | fail) only [go_sem, h, g3, decide_true, f2, f5])) | fail)
            all_goals (try omega)
            refine ⟨q + 1, by omega, wk_by [0, 1] ?_, by omega⟩
            (simp (maxSteps := 1000000) (disch := first | exact dq | fail) only [go_sem])
            exact congrArg (fun z => AV.iv (.int .i64 z)) (by omega)
        obtain rfl : q = s := by omega
        obtain ⟨w, hw⟩ : ∃ w : Nat, p1 + q = w := ⟨_, rfl⟩
        rw [hw] at e2 e7 ⊢
        rw [e4]
        (repeat' first
  | ((first | refine Nx.go ?_ | fail) <;> try (simp (maxSteps := 1000000) (disch := first | exact dq | fail) only [go_sem]))
  | ((with_reducible refine Sp.go ?_ ?_) <;> intro h <;> (try (simp (maxSteps := 1000000) (disch := first | exact dq | fail) only [go_sem] at h)) <;> try (simp (maxSteps := 1000000) (disch := first | exact dq | fail) only [go_sem, h])) | fail)
        all_goals (try omega)
        refine aw_loop (α := Nat) (fun i => ⟨212, sl [(3, .iv (.bool true)), (4, .mp 0 0), (6, .mp 1 0), (8, .iv (.int .i64 t.nodes.length)), (9, .iv (.int .i64 j)), (11, .iv (inl ch)), (14, .iv (.int .i64 w)), (15, .iv (.int .i64 i))], [.var 25 [.iv (.sl 1 (t.names.map fun s => IV.str (bs s))), .iv (.sl 4 (t.nodes.map ndV))], .var 31 [.iv (inl O), .iv (.sl 1 (RL.map .bool)), .iv (inl RS), .iv (.sl 1 (RF.map .bool)), .iv (inl B)]], 0⟩)
          (fun i => i ≤ ch.length) (fun i => ch.length - i) 0 (wk_by [0, 1] ?_) (Nat.zero_le _) ?_
        · (simp (maxSteps := 1000000) (disch := first | exact dq | fail) only [go_sem])
          try rfl
        rintro i hi
        by_cases h : i < ch.length
        · have g3 : (i : Int) < ch.length := by omega
          obtain ⟨f1, f2⟩ := e7 i h
          have f0 : ch[i]? = some (ch.getD i 0) := by rw [getD_el h]; exact List.getElem?_eq_getElem h
          generalize ch.getD i 0 = y at *
          obtain ⟨v, hv⟩ : ∃ v : Nat, w + i = v := ⟨_, rfl⟩
          have hv1 : ((w : Int) + i) = (v : Int) := by omega
          rw [hv] at f1 f2
          have hdc : decide (i + 1 = ch.length) = decide ((i : Int) = (ch.length : Int) - 1) := decide_eq_decide.2 (by omega)
          rw [hdc] at f2
          by_cases hd : (i : Int) = (ch.length : Int) - 1
          · rw [decide_eq_true hd] at f2
            (repeat' (with_reducible first | refine Nx.go ?_ | refine rP ?_ | refine And.intro ?_ ?_ | fail) <;> try (simp (maxSteps := 1000000) (disch := first | exact dq | fail) only [go_sem, g3, decide_true, hv1, f0, f1, f2, eq_true hd]))
            all_goals (try omega)
            refine ⟨i + 1, by omega, wk_by [0, 1] ?_, by omega⟩
            (simp (maxSteps := 1000000) (disch := first | exact dq | fail) only [go_sem])
            try rfl
          · rw [decide_eq_false hd] at f2
            (repeat' (with_reducible first | refine Nx.go ?_ | refine rP ?_ | refine And.intro ?_ ?_ | fail) <;> try (simp (maxSteps := 1000000) (disch := first | exact dq | fail) only [go_sem, g3, decide_true, hv1, f0, f1, f2, eq_false hd, decide_false]))
            all_goals (try omega)
            refine ⟨i + 1, by omega, wk_by [0, 1] ?_, by omega⟩
            (simp (maxSteps := 1000000) (disch := first | exact dq | fail) only [go_sem])
            try rfl
        · obtain rfl : i = ch.length := by omega
          have g3 : ¬ (ch.length : Int) < ch.length := by omega
          (repeat' (first | refine Nx.go ?_ | fail) <;> try (simp (maxSteps := 1000000) (disch := first | exact dq | fail) only [go_sem, g3, decide_false]))
          all_goals (try omega)
          refine ⟨j + 1, by omega, wk_by [0, 1] ?_, by omega⟩
          (simp (maxSteps := 1000000) (disch := first | exact dq | fail) only [go_sem])
          try rfl
    · obtain rfl : k = t.nodes.length := by omega
      have g1 : ¬ (t.nodes.length : Int) < t.nodes.length := by omega
      (repeat' (first | refine Nx.go ?_ | fail) <;> try (simp (maxSteps := 1000000) (disch := first | exact dq | fail) only [go_sem, g1, decide_false]))
      all_goals (try omega)
  · have he' := eq_false he
    generalize (parseF D).1 = t at *
    generalize (parseF D).2 = e at *
    unfold trV stV at *
    refine PCalls.of_aw Try.func4 rfl (by unfold Callable; kernel_rfl) (by kernel_rfl) (by simp [Try.ntmps4]) ?_; rw [Try.ntmps4, Try.results4]; (simp (maxSteps := 1000000) (disch := first | exact dq | fail) only [go_sem])
    (repeat' (first | refine Nx.go ?_ | fail) <;> try (simp (maxSteps := 1000000) (disch := first | exact dq | fail) only [go_sem]))
    ((with_reducible first | apply left_callf | apply leftD_callf | apply leftF_callf); (· with_reducible rfl); (· (simp (maxSteps := 1000000) (disch := first | exact dq | fail) only [go_sem]) <;> rfl); (· exact awake16_spec); try (simp (maxSteps := 1000000) (disch := first | exact dq | fail) only [go_sem]))
    (repeat' (first | refine Nx.go ?_ | fail) <;> try (simp (maxSteps := 1000000) (disch := first | exact dq | fail) only [go_sem]))
    ((with_reducible first | apply left_callf | apply leftD_callf | apply leftF_callf); (· with_reducible rfl); (· (simp (maxSteps := 1000000) (disch := first | exact dq | fail) only [go_sem]) <;> rfl); (· exact hSh); try (simp (maxSteps := 1000000) (disch := first | exact dq | fail) only [go_sem]))
    (repeat' (first | refine Nx.go ?_ | fail) <;> try (simp (maxSteps := 1000000) (disch := first | exact dq | fail) only [go_sem]))
    ((with_reducible first | apply left_callf | apply leftD_callf | apply leftF_callf); (· with_reducible rfl); (· (simp (maxSteps := 1000000) (disch := first | exact dq | fail) only [go_sem]) <;> rfl); (· exact hP); try (simp (maxSteps := 1000000) (disch := first | exact dq | fail) only [go_sem]))
    (repeat' (first | refine Nx.go ?_ | fail) <;> try (simp (maxSteps := 1000000) (disch := first | exact dq | fail) only [go_sem, he', decide_false, Bool.not_false]))
end Go.Proofs.Ytnijpeeehnnipaa.AM
