
/- Chapter 5: the law ShapedTells. Any numbers that fit. -/
import Derived.Test.YtpjncojljamacaaGreatZW
import Derived.Test.YtpjncojljamacaaGreatCA
set_option linter.unusedVariables false
set_option linter.unusedSimpArgs false
set_option maxRecDepth 20000
namespace Go.Proofs.YtpjncojljamacaaGreat.AM
open Go Go.RowKit

theorem zLen5 : PCalls Tryz.prog 13 [shZ] (.int .i64 0) := by
  unfold shZ
  refine PCalls.of_aw Tryz.func13 rfl (by unfold Callable; kernel_rfl) (by kernel_rfl) (by simp [Tryz.ntmps13]) ?_; rw [Tryz.ntmps13, Tryz.results13]; (simp (disch := first | exact dq | fail) only [go_sem])
  (repeat' first
  | ((with_reducible first | refine Nx.go ?_ | refine rP ?_ | refine rR ?_ | refine And.intro ?_ ?_ | fail) <;> try (simp (disch := first | exact dq | fail) only [go_sem]))
  | ((with_reducible refine Sp.go ?_ ?_) <;> intro h <;> (try (simp (disch := first | exact dq | fail) only [go_sem] at h)) <;> try (simp (disch := first | exact dq | fail) only [go_sem, h])) | fail)
theorem mayB_ok {l : List Int} {S : Nat} (h1 : 1 ≤ S) (h2 : S ≤ 65536) (h : ∀ x ∈ l, 0 ≤ x ∧ x < S) : mayB l S = true := by
  unfold mayB
  rw [decide_eq_true (by omega), Bool.true_and, Bool.not_eq_true', List.any_eq_false]
  intro x hx
  have := h x hx
  unfold offK
  rw [Bool.or_eq_true, decide_eq_true_eq, decide_eq_true_eq]
  omega
theorem mayB_no {l : List Int} {S : Nat} (h1 : 1 ≤ S) (h2 : S ≤ 65536) (h : ¬ ∀ x ∈ l, 0 ≤ x ∧ x < S) : mayB l S = false := by
  unfold mayB
  rw [decide_eq_true (by omega), Bool.true_and]
  cases hb : l.any (offK S) with
  | true => rfl
  | false =>
    exfalso
    refine h (fun x hx => ?_)
    have := List.any_eq_false.1 hb x hx
    unfold offK at this
    rw [Bool.or_eq_true, decide_eq_true_eq, decide_eq_true_eq] at this
    omega
theorem cdF_len (counts : List Int) (x : Int) : (cdF counts x).length ≤ counts.length := by
  unfold cdF
  by_cases g : x.toNat ∈ cntS counts ∧ 2 ≤ manyC counts
  · have := kd_len g.1 g.2
    have := @many_le counts
    omega
  · rw [kd_none g]; simp
theorem cost_step (cd : Int → List Bool) (l : List Int) (i : Nat) (h : i < l.length) : costL cd (l.take (i + 1)) = costL cd (l.take i) + (cd (l.getD i 0)).length := by
  unfold costL
  rw [take_snoc l h, List.map_append, List.sum_append]
  rfl
theorem cost_up (cd : Int → List Bool) (b : Nat) (hb : ∀ x, (cd x).length ≤ b) : ∀ l : List Int, costL cd l ≤ l.length * b
  | [] => by simp [costL]
  | x :: l => by
    have := cost_up cd b hb l
    have := hb x
    have e : costL cd (x :: l) = (cd x).length + costL cd l := rfl
    rw [e, List.length_cons, Nat.succ_mul]
    omega
set_option maxHeartbeats 8000000 in
theorem ShapedTells_spec (l : List Int) (x0 x1 x2 x3 : Int) (raw : Bool) (hs1 : small x1) : PCalls Tryz.prog 4 [inl l, .agg [.int .i64 x0, .int .i64 x1, .int .i64 x2, .int .i64 x3], .bool raw] (.bool true) := by
  have hY := symbols5_spec l x3
  have hml0 := sys5_len (1 + x3 % 32) l
  obtain ⟨S, hS⟩ : ∃ S : Nat, 1 + x3 % 32 = (S : Int) := ⟨(1 + x3 % 32).toNat, by omega⟩
  rw [hS] at hY hml0
  generalize sys5 (S : Int) l = m0 at *
  have hS1 : 1 ≤ S ∧ S ≤ 32 := by omega
  obtain ⟨m, hm⟩ : ∃ m, m = if raw = true then x2 :: m0 else m0 := ⟨_, rfl⟩
  have hml : m.length ≤ 81 := by
    rw [hm]; split
    · rw [List.length_cons]; omega
    · omega
  refine PCalls.of_aw Tryz.func4 rfl (by unfold Callable; kernel_rfl) (by kernel_rfl) (by simp [Tryz.ntmps4]) ?_; rw [Tryz.ntmps4, Tryz.results4]; (simp (maxSteps := 1000000) (disch := first | exact dq | fail) only [go_sem])
  (repeat' first
  | ((with_reducible first | refine Nx.go ?_ | refine rP ?_ | refine rR ?_ | refine And.intro ?_ ?_ | fail) <;> try (simp (maxSteps := 1000000) (disch := first | exact dq | fail) only [go_sem]))
  | ((with_reducible refine Sp.go ?_ ?_) <;> intro h <;> (try (simp (maxSteps := 1000000) (disch := first | exact dq | fail) only [go_sem] at h)) <;> try (simp (maxSteps := 1000000) (disch := first | exact dq | fail) only [go_sem, h])) | fail)
  ((with_reducible first | apply left_callf | apply leftD_callf | apply leftF_callf); (· with_reducible rfl); (· (simp (maxSteps := 1000000) (disch := first | exact dq | fail) only [go_sem]) <;> rfl); (· exact awake5_spec); try (simp (maxSteps := 1000000) (disch := first | exact dq | fail) only [go_sem]))
  (repeat' first
  | ((with_reducible first | refine Nx.go ?_ | refine rP ?_ | refine rR ?_ | refine And.intro ?_ ?_ | fail) <;> try (simp (maxSteps := 1000000) (disch := first | exact dq | fail) only [go_sem]))
  | ((with_reducible refine Sp.go ?_ ?_) <;> intro h <;> (try (simp (maxSteps := 1000000) (disch := first | exact dq | fail) only [go_sem] at h)) <;> try (simp (maxSteps := 1000000) (disch := first | exact dq | fail) only [go_sem, h])) | fail)
  ((with_reducible first | apply left_callf | apply leftD_callf | apply leftF_callf); (· with_reducible rfl); (· (simp (maxSteps := 1000000) (disch := first | exact dq | fail) only [go_sem]) <;> rfl); (· exact hY); try (simp (maxSteps := 1000000) (disch := first | exact dq | fail) only [go_sem]))
  refine aw_cut ⟨177, sl [(4, .mp 0 0), (7, .iv (.bool true)), (8, .iv (inl m)), (9, .iv (.int .i64 S))], [.var 38 [.iv (.int .i64 x0), .iv (.int .i64 x1), .iv (.int .i64 x2), .iv (.int .i64 x3)]], 0⟩ ?_ ?_
  · cases raw with
    | true =>
      rw [if_pos rfl] at hm
      have hlm : (IV.int .i64 x2 :: m0.map (IV.int .i64)).length = 1 + m0.length := by rw [List.length_cons, List.length_map]; omega
      have htm : (IV.int .i64 x2 :: m0.map (IV.int .i64)).take (1 + m0.length) = m.map (IV.int .i64) := by rw [hm, List.take_of_length_le (by omega)]; rfl
      (repeat' first
  | ((with_reducible first | refine Nx.go ?_ | refine rP ?_ | refine rR ?_ | refine And.intro ?_ ?_ | fail) <;> try (simp (maxSteps := 1000000) (disch := first | exact dq | fail) only [go_sem]))
  | ((with_reducible refine Sp.go ?_ ?_) <;> intro h <;> (try (simp (maxSteps := 1000000) (disch := first | exact dq | fail) only [go_sem] at h)) <;> try (simp (maxSteps := 1000000) (disch := first | exact dq | fail) only [go_sem, h])) | fail)
      all_goals (try omega)
      refine (wk_frz (i := 8) (y := inl m) (M' := [.var 38 [.iv (.int .i64 x0), .iv (.int .i64 x1), .iv (.int .i64 x2), .iv (.int .i64 x3)], .row false 3 1 (IV.int .i64 x2 :: m0.map (IV.int .i64)), .row true 3 1 [IV.int .i64 x2]]) ?_).trans (wk_by [0] ?_)
      · (simp (maxSteps := 1000000) (disch := first | exact dq | fail) only [go_sem, hlm, htm])
        try omega
      · (simp (maxSteps := 1000000) (disch := first | exact dq | fail) only [go_sem])
    | false =>
      obtain rfl : m = m0 := by rw [hm, if_neg (by decide)]
      (repeat' first
  | ((with_reducible first | refine Nx.go ?_ | refine rP ?_ | refine rR ?_ | refine And.intro ?_ ?_ | fail) <;> try (simp (maxSteps := 1000000) (disch := first | exact dq | fail) only [go_sem]))
  | ((with_reducible refine Sp.go ?_ ?_) <;> intro h <;> (try (simp (maxSteps := 1000000) (disch := first | exact dq | fail) only [go_sem] at h)) <;> try (simp (maxSteps := 1000000) (disch := first | exact dq | fail) only [go_sem, h])) | fail)
      refine wk_by [0] ?_
      (simp (maxSteps := 1000000) (disch := first | exact dq | fail) only [go_sem])
  by_cases hgood : ∀ x ∈ m, 0 ≤ x ∧ x < S
  · have hN := New_ok m S (by omega) (by omega) (by omega) hgood
    have hMay := RefMay_spec m S (by omega)
    rw [mayB_ok (by omega) (by omega) hgood] at hMay
    have hCt := Counts_spec m S (by omega) (by omega) hgood
    have hCo := Codes5_spec (cnt5 m S) (by rw [cnt5_len]; omega)
    have hSame := RefSameI_spec m m (by omega)
    rw [decide_eq_true rfl] at hSame
    have hRR := RefRank4 m x0 x1 (by omega)
    (repeat' first
  | ((with_reducible first | refine Nx.go ?_ | refine rP ?_ | refine rR ?_ | refine And.intro ?_ ?_ | fail) <;> try (simp (maxSteps := 1000000) (disch := first | exact dq | fail) only [go_sem]))
  | ((with_reducible refine Sp.go ?_ ?_) <;> intro h <;> (try (simp (maxSteps := 1000000) (disch := first | exact dq | fail) only [go_sem] at h)) <;> try (simp (maxSteps := 1000000) (disch := first | exact dq | fail) only [go_sem, h])) | fail)
    ((with_reducible refine left_callRs [] (hN) ?_ ?_); (· (simp (maxSteps := 1000000) (disch := first | exact dq | fail) only [go_sem])))
    rintro r M' ⟨rk, rfl, rfl, hrk⟩
    have h5 : Shp5 m S rk := ⟨by omega, by omega, by omega, hgood, hrk⟩
    obtain ⟨v, hv1, hv2⟩ : ∃ v : Int, PCalls Tryz.prog 10 [shV m S rk, .int .i64 x0, .int .i64 x1] (.int .i64 v) ∧ PCalls Tryz.prog 22 [inl m, .int .i64 x0, .int .i64 x1] (.int .i64 v) := by
      by_cases g : x1 < 0 ∨ ((cP (fun x => decide (x = x0)) m m.length : Nat) : Int) ≤ x1
      · exact ⟨-1, Sel5_out h5 x0 x1 g, RefSel_out m x0 x1 (by omega) g hs1⟩
      · obtain ⟨k, rfl⟩ : ∃ k : Nat, x1 = (k : Int) := ⟨x1.toNat, by omega⟩
        obtain ⟨q, hq, hqc, hqk⟩ := @cP_hit (fun x => decide (x = x0)) m k m.length (Nat.le_refl _) (by omega)
        have hqc' : m.getD q 0 = x0 := of_decide_eq_true hqc
        have e1 := Sel5_in h5 x0 q hq hqc'
        have e2 := RefSel_in m x0 q hq (by omega) hqc'
        rw [hqk] at e1 e2
        exact ⟨q, e1, e2⟩
    have hLen := Len5_spec m S rk
    have hSize := Size5_spec m S rk
    have hCost := Cost5_spec h5
    have hCode := Code5_spec h5 x0
    have hAt := At5_spec h5 x1
    have hRank := Rank5_spec h5 x0 x1
    have hList := List5_spec h5
    unfold shV cdV at *
    generalize keyR rk = a4 at *
    generalize List.map (fun p => rankV (rwL (cdF (cnt5 m S)) m p)) rk = b4 at *
    generalize keyR (List.map (cdF (cnt5 m S)) (dst m)) = a5 at *
    generalize List.map (IV.int .i64) (dst m) = b5 at *
    have hsl := code_len m S
    have hdg : ∀ i, i < m.length → (strR (kdsL (cnt5 m S)))[(m.getD i 0).toNat]? = some (.str (bs (cdB (cdF (cnt5 m S) (m.getD i 0))))) := fun i hi => code_at m S (hgood _ (getD_mem hi))
    have hdl : ∀ x, (cdB (cdF (cnt5 m S) x)).length = (cdF (cnt5 m S) x).length := fun x => cdB_len _
    have hcs := fun i h => cost_step (cdF (cnt5 m S)) m i h
    have hcb : ∀ x, (cdF (cnt5 m S) x).length ≤ S := fun x => by have := cdF_len (cnt5 m S) x; rwa [cnt5_len] at this
    have hcu : ∀ i, costL (cdF (cnt5 m S)) (m.take i) ≤ 81 * 32 := fun i => by
      have h1 := cost_up (cdF (cnt5 m S)) 32 (fun x => by have := hcb x; omega) (m.take i)
      rw [List.length_take] at h1
      have : min i m.length * 32 ≤ 81 * 32 := Nat.mul_le_mul_right _ (by omega)
      omega
    have hcz : cdZ m S x0 = if 0 ≤ x0 ∧ x0 < S then cdF (cnt5 m S) x0 else [] := rfl
    have hr0 : ¬ (0 ≤ x0 ∧ x0 < S) → rk5 m x0 x1 = 0 := fun g => cP_zero (fun x hx => decide_eq_false (fun e => g (by have := hgood x hx; omega))) _ (by omega)
    have hr1 : rk5 m x0 x1 = cP (fun x => decide (x = x0)) m (clI m.length x1) := rfl
    have hat : at5 m x1 = if 0 ≤ x1 ∧ x1 < m.length then m.getD x1.toNat 0 else -1 := rfl
    have hce : costL (cdF (cnt5 m S)) (m.take m.length) = costL (cdF (cnt5 m S)) m := by rw [List.take_length]
    rw [← hr1] at hRR
    (simp (maxSteps := 1000000) (disch := first | exact dq | fail) only [go_sem])
    (repeat' first
  | ((with_reducible first | refine Nx.go ?_ | refine rP ?_ | refine rR ?_ | refine And.intro ?_ ?_ | fail) <;> try (simp (maxSteps := 1000000) (disch := first | exact dq | fail) only [go_sem]))
  | ((with_reducible refine Sp.go ?_ ?_) <;> intro h <;> (try (simp (maxSteps := 1000000) (disch := first | exact dq | fail) only [go_sem] at h)) <;> try (simp (maxSteps := 1000000) (disch := first | exact dq | fail) only [go_sem, h])) | fail)
    ((with_reducible first | apply left_callf | apply leftD_callf | apply leftF_callf); (· with_reducible rfl); (· (simp (maxSteps := 1000000) (disch := first | exact dq | fail) only [go_sem]) <;> rfl); (· exact hMay); try (simp (maxSteps := 1000000) (disch := first | exact dq | fail) only [go_sem]))
    (repeat' first
  | ((with_reducible first | refine Nx.go ?_ | refine rP ?_ | refine rR ?_ | refine And.intro ?_ ?_ | fail) <;> try (simp (maxSteps := 1000000) (disch := first | exact dq | fail) only [go_sem]))
  | ((with_reducible refine Sp.go ?_ ?_) <;> intro h <;> (try (simp (maxSteps := 1000000) (disch := first | exact dq | fail) only [go_sem] at h)) <;> try (simp (maxSteps := 1000000) (disch := first | exact dq | fail) only [go_sem, h])) | fail)
    ((with_reducible first | apply left_callf | apply leftD_callf | apply leftF_callf); (· with_reducible rfl); (· (simp (maxSteps := 1000000) (disch := first | exact dq | fail) only [go_sem]) <;> rfl); (· exact hCt); try (simp (maxSteps := 1000000) (disch := first | exact dq | fail) only [go_sem]))
    ((with_reducible first | apply left_callf | apply leftD_callf | apply leftF_callf); (· with_reducible rfl); (· (simp (maxSteps := 1000000) (disch := first | exact dq | fail) only [go_sem]) <;> rfl); (· exact hCo); try (simp (maxSteps := 1000000) (disch := first | exact dq | fail) only [go_sem]))
    (repeat' first
  | ((with_reducible first | refine Nx.go ?_ | refine rP ?_ | refine rR ?_ | refine And.intro ?_ ?_ | fail) <;> try (simp (maxSteps := 1000000) (disch := first | exact dq | fail) only [go_sem]))
  | ((with_reducible refine Sp.go ?_ ?_) <;> intro h <;> (try (simp (maxSteps := 1000000) (disch := first | exact dq | fail) only [go_sem] at h)) <;> try (simp (maxSteps := 1000000) (disch := first | exact dq | fail) only [go_sem, h])) | fail)
    refine aw_loop (α := Nat) (fun i => ⟨177, sl [(4, .mp 0 0), (7, .iv (.bool true)), (8, .iv (inl m)), (9, .iv (.int .i64 S)), (11, .mp 1 0), (13, .iv (.sl 1 (strR (kdsL (cnt5 m S))))), (14, .iv (.int .i64 (costL (cdF (cnt5 m S)) (m.take i) : Nat))), (15, .iv (.int .i64 i))],
        [.var 38 [.iv (.int .i64 x0), .iv (.int .i64 x1), .iv (.int .i64 x2), .iv (.int .i64 x3)], .var 31 [.iv (.int .i64 m.length), .iv (.int .i64 S), .iv (.sl 1 (strR (kdsL (cnt5 m S)))), .iv (.map a4 b4), .iv (.map a5 b5)]], 0⟩)
      (fun i => i ≤ m.length) (fun i => m.length - i) 0 (wk_by [0, 1] ?_) (Nat.zero_le _) ?_
    · have e0 : costL (cdF (cnt5 m S)) [] = 0 := rfl
      (simp (maxSteps := 1000000) (disch := first | exact dq | fail) only [go_sem, List.take_zero, e0])
    rintro i hi
    have hci := hcu i
    by_cases h : i < m.length
    · have c1 : (i : Int) < m.length := by omega
      have hd := hdg i h
      have hst := hcs i h
      have hgi := hgood _ (getD_mem h)
      have hxl := hdl (m.getD i 0)
      have hxb := hcb (m.getD i 0)
      (repeat' first
  | ((with_reducible first | refine Nx.go ?_ | refine rP ?_ | refine rR ?_ | refine And.intro ?_ ?_ | fail) <;> try (simp (maxSteps := 1000000) (disch := first | exact dq | fail) only [go_sem, c1, decide_true, hd, hsl, hxl]))
  | ((with_reducible refine Sp.go ?_ ?_) <;> intro h <;> (try (simp (maxSteps := 1000000) (disch := first | exact dq | fail) only [go_sem] at h)) <;> try (simp (maxSteps := 1000000) (disch := first | exact dq | fail) only [go_sem, h, c1, decide_true, hd, hsl, hxl])) | fail)
      all_goals (try omega)
      refine ⟨i + 1, by omega, wk_by [0, 1] ?_, by omega⟩
      (simp (maxSteps := 1000000) (disch := first | exact dq | fail) only [go_sem, hst, Int.natCast_add])
    obtain rfl : i = m.length := by omega
    have c1 : ¬ ((m.length : Int) < m.length) := by omega
    rw [hce]
    have hX1 : ((x1 ≥ 0) = True ∧ (x1 < m.length) = True ∧ at5 m x1 = m.getD x1.toNat 0 ∧ (m.map (IV.int .i64))[x1.toNat]? = some (.int .i64 (m.getD x1.toNat 0))) ∨ ((x1 ≥ 0) = True ∧ (x1 < m.length) = False ∧ at5 m x1 = -1 ∧ True = True) ∨ ((x1 ≥ 0) = False ∧ True = True ∧ at5 m x1 = -1 ∧ True = True) := by
      by_cases g1 : x1 ≥ 0
      · by_cases g2 : x1 < m.length
        · exact .inl ⟨eq_true g1, eq_true g2, by rw [hat, if_pos ⟨g1, g2⟩], by simp [List.getD, List.getElem?_eq_getElem (show x1.toNat < m.length by omega)]⟩
        · exact .inr (.inl ⟨eq_true g1, eq_false g2, by rw [hat, if_neg (by omega)], rfl⟩)
      · exact .inr (.inr ⟨eq_false g1, rfl, by rw [hat, if_neg (by omega)], rfl⟩)
    have hX0 : ((x0 ≥ 0) = True ∧ (x0 < S) = True ∧ cdZ m S x0 = cdF (cnt5 m S) x0) ∨ ((x0 ≥ 0) = True ∧ (x0 < S) = False ∧ cdZ m S x0 = []) ∨ ((x0 ≥ 0) = False ∧ True = True ∧ cdZ m S x0 = []) := by
      by_cases g1 : x0 ≥ 0
      · by_cases g2 : x0 < S
        · exact .inl ⟨eq_true g1, eq_true g2, by rw [hcz, if_pos ⟨g1, g2⟩]⟩
        · exact .inr (.inl ⟨eq_true g1, eq_false g2, by rw [hcz, if_neg (by omega)]⟩)
      · exact .inr (.inr ⟨eq_false g1, rfl, by rw [hcz, if_neg (by omega)]⟩)
    have hb0 : cdB [] = [] := rfl
    rcases hX0 with ⟨p1, p2, hz⟩ | ⟨p1, p2, hz⟩ | ⟨p1, p2, hz⟩
    · have g1 : x0 ≥ 0 := of_eq_true p1
      have g2 : x0 < S := of_eq_true p2
      have hdx := code_at m S ⟨g1, g2⟩
      rw [hz] at hCode
      rcases hX1 with ⟨q1, q2, ha, hmx⟩ | ⟨q1, q2, ha, hmx⟩ | ⟨q1, q2, ha, hmx⟩
      all_goals
        rw [ha] at hAt
        (repeat' first
  | ((with_reducible first | refine Nx.go ?_ | refine rP ?_ | refine rR ?_ | refine And.intro ?_ ?_ | fail) <;> try (simp (maxSteps := 1000000) (disch := first | exact dq | fail) only [go_sem, c1, p1, p2, hdx, hsl, decide_true, decide_false]))
  | ((with_reducible refine Sp.go ?_ ?_) <;> intro h <;> (try (simp (maxSteps := 1000000) (disch := first | exact dq | fail) only [go_sem] at h)) <;> try (simp (maxSteps := 1000000) (disch := first | exact dq | fail) only [go_sem, h, c1, p1, p2, hdx, hsl, decide_true, decide_false])) | fail)
        all_goals (try omega)
        ((with_reducible first | apply left_callf | apply leftD_callf | apply leftF_callf); (· with_reducible rfl); (· (simp (maxSteps := 1000000) (disch := first | exact dq | fail) only [go_sem]) <;> rfl); (· exact hRR); try (simp (maxSteps := 1000000) (disch := first | exact dq | fail) only [go_sem]))
        (repeat' first
  | ((with_reducible first | refine Nx.go ?_ | refine rP ?_ | refine rR ?_ | refine And.intro ?_ ?_ | fail) <;> try (simp (maxSteps := 1000000) (disch := first | exact dq | fail) only [go_sem, q1, q2, hmx, decide_true, decide_false]))
  | ((with_reducible refine Sp.go ?_ ?_) <;> intro h <;> (try (simp (maxSteps := 1000000) (disch := first | exact dq | fail) only [go_sem] at h)) <;> try (simp (maxSteps := 1000000) (disch := first | exact dq | fail) only [go_sem, h, q1, q2, hmx, decide_true, decide_false])) | fail)
        all_goals (try first | exact of_eq_true q1 | exact of_eq_true q2 | omega)
        ((with_reducible first | apply left_callf | apply leftD_callf | apply leftF_callf); (· with_reducible rfl); (· (simp (maxSteps := 1000000) (disch := first | exact dq | fail) only [go_sem]) <;> rfl); (· exact hList); try (simp (maxSteps := 1000000) (disch := first | exact dq | fail) only [go_sem]))
        (repeat' first
  | ((with_reducible first | refine Nx.go ?_ | refine rP ?_ | refine rR ?_ | refine And.intro ?_ ?_ | fail) <;> try (simp (maxSteps := 1000000) (disch := first | exact dq | fail) only [go_sem]))
  | ((with_reducible refine Sp.go ?_ ?_) <;> intro h <;> (try (simp (maxSteps := 1000000) (disch := first | exact dq | fail) only [go_sem] at h)) <;> try (simp (maxSteps := 1000000) (disch := first | exact dq | fail) only [go_sem, h])) | fail)
        ((with_reducible first | apply left_callf | apply leftD_callf | apply leftF_callf); (· with_reducible rfl); (· (simp (maxSteps := 1000000) (disch := first | exact dq | fail) only [go_sem]) <;> rfl); (· exact hSame); try (simp (maxSteps := 1000000) (disch := first | exact dq | fail) only [go_sem]))
        (repeat' first
  | ((with_reducible first | refine Nx.go ?_ | refine rP ?_ | refine rR ?_ | refine And.intro ?_ ?_ | fail) <;> try (simp (maxSteps := 1000000) (disch := first | exact dq | fail) only [go_sem]))
  | ((with_reducible refine Sp.go ?_ ?_) <;> intro h <;> (try (simp (maxSteps := 1000000) (disch := first | exact dq | fail) only [go_sem] at h)) <;> try (simp (maxSteps := 1000000) (disch := first | exact dq | fail) only [go_sem, h])) | fail)
        ((with_reducible first | apply left_callf | apply leftD_callf | apply leftF_callf); (· with_reducible rfl); (· (simp (maxSteps := 1000000) (disch := first | exact dq | fail) only [go_sem]) <;> rfl); (· exact hLen); try (simp (maxSteps := 1000000) (disch := first | exact dq | fail) only [go_sem]))
        (repeat' first
  | ((with_reducible first | refine Nx.go ?_ | refine rP ?_ | refine rR ?_ | refine And.intro ?_ ?_ | fail) <;> try (simp (maxSteps := 1000000) (disch := first | exact dq | fail) only [go_sem]))
  | ((with_reducible refine Sp.go ?_ ?_) <;> intro h <;> (try (simp (maxSteps := 1000000) (disch := first | exact dq | fail) only [go_sem] at h)) <;> try (simp (maxSteps := 1000000) (disch := first | exact dq | fail) only [go_sem, h])) | fail)
        ((with_reducible first | apply left_callf | apply leftD_callf | apply leftF_callf); (· with_reducible rfl); (· (simp (maxSteps := 1000000) (disch := first | exact dq | fail) only [go_sem]) <;> rfl); (· exact hSize); try (simp (maxSteps := 1000000) (disch := first | exact dq | fail) only [go_sem]))
        (repeat' first
  | ((with_reducible first | refine Nx.go ?_ | refine rP ?_ | refine rR ?_ | refine And.intro ?_ ?_ | fail) <;> try (simp (maxSteps := 1000000) (disch := first | exact dq | fail) only [go_sem]))
  | ((with_reducible refine Sp.go ?_ ?_) <;> intro h <;> (try (simp (maxSteps := 1000000) (disch := first | exact dq | fail) only [go_sem] at h)) <;> try (simp (maxSteps := 1000000) (disch := first | exact dq | fail) only [go_sem, h])) | fail)
        ((with_reducible first | apply left_callf | apply leftD_callf | apply leftF_callf); (· with_reducible rfl); (· (simp (maxSteps := 1000000) (disch := first | exact dq | fail) only [go_sem]) <;> rfl); (· exact hCost); try (simp (maxSteps := 1000000) (disch := first | exact dq | fail) only [go_sem]))
        (repeat' first
  | ((with_reducible first | refine Nx.go ?_ | refine rP ?_ | refine rR ?_ | refine And.intro ?_ ?_ | fail) <;> try (simp (maxSteps := 1000000) (disch := first | exact dq | fail) only [go_sem]))
  | ((with_reducible refine Sp.go ?_ ?_) <;> intro h <;> (try (simp (maxSteps := 1000000) (disch := first | exact dq | fail) only [go_sem] at h)) <;> try (simp (maxSteps := 1000000) (disch := first | exact dq | fail) only [go_sem, h])) | fail)
        ((with_reducible first | apply left_callf | apply leftD_callf | apply leftF_callf); (· with_reducible rfl); (· (simp (maxSteps := 1000000) (disch := first | exact dq | fail) only [go_sem]) <;> rfl); (· exact hCode); try (simp (maxSteps := 1000000) (disch := first | exact dq | fail) only [go_sem]))
        (repeat' first
  | ((with_reducible first | refine Nx.go ?_ | refine rP ?_ | refine rR ?_ | refine And.intro ?_ ?_ | fail) <;> try (simp (maxSteps := 1000000) (disch := first | exact dq | fail) only [go_sem]))
  | ((with_reducible refine Sp.go ?_ ?_) <;> intro h <;> (try (simp (maxSteps := 1000000) (disch := first | exact dq | fail) only [go_sem] at h)) <;> try (simp (maxSteps := 1000000) (disch := first | exact dq | fail) only [go_sem, h])) | fail)
        ((with_reducible first | apply left_callf | apply leftD_callf | apply leftF_callf); (· with_reducible rfl); (· (simp (maxSteps := 1000000) (disch := first | exact dq | fail) only [go_sem]) <;> rfl); (· exact hAt); try (simp (maxSteps := 1000000) (disch := first | exact dq | fail) only [go_sem]))
        (repeat' first
  | ((with_reducible first | refine Nx.go ?_ | refine rP ?_ | refine rR ?_ | refine And.intro ?_ ?_ | fail) <;> try (simp (maxSteps := 1000000) (disch := first | exact dq | fail) only [go_sem]))
  | ((with_reducible refine Sp.go ?_ ?_) <;> intro h <;> (try (simp (maxSteps := 1000000) (disch := first | exact dq | fail) only [go_sem] at h)) <;> try (simp (maxSteps := 1000000) (disch := first | exact dq | fail) only [go_sem, h])) | fail)
        ((with_reducible first | apply left_callf | apply leftD_callf | apply leftF_callf); (· with_reducible rfl); (· (simp (maxSteps := 1000000) (disch := first | exact dq | fail) only [go_sem]) <;> rfl); (· exact hRank); try (simp (maxSteps := 1000000) (disch := first | exact dq | fail) only [go_sem]))
        (repeat' first
  | ((with_reducible first | refine Nx.go ?_ | refine rP ?_ | refine rR ?_ | refine And.intro ?_ ?_ | fail) <;> try (simp (maxSteps := 1000000) (disch := first | exact dq | fail) only [go_sem]))
  | ((with_reducible refine Sp.go ?_ ?_) <;> intro h <;> (try (simp (maxSteps := 1000000) (disch := first | exact dq | fail) only [go_sem] at h)) <;> try (simp (maxSteps := 1000000) (disch := first | exact dq | fail) only [go_sem, h])) | fail)
        ((with_reducible first | apply left_callf | apply leftD_callf | apply leftF_callf); (· with_reducible rfl); (· (simp (maxSteps := 1000000) (disch := first | exact dq | fail) only [go_sem]) <;> rfl); (· exact hv1); try (simp (maxSteps := 1000000) (disch := first | exact dq | fail) only [go_sem]))
        (repeat' first
  | ((with_reducible first | refine Nx.go ?_ | refine rP ?_ | refine rR ?_ | refine And.intro ?_ ?_ | fail) <;> try (simp (maxSteps := 1000000) (disch := first | exact dq | fail) only [go_sem]))
  | ((with_reducible refine Sp.go ?_ ?_) <;> intro h <;> (try (simp (maxSteps := 1000000) (disch := first | exact dq | fail) only [go_sem] at h)) <;> try (simp (maxSteps := 1000000) (disch := first | exact dq | fail) only [go_sem, h])) | fail)
        ((with_reducible first | apply left_callf | apply leftD_callf | apply leftF_callf); (· with_reducible rfl); (· (simp (maxSteps := 1000000) (disch := first | exact dq | fail) only [go_sem]) <;> rfl); (· exact hv2); try (simp (maxSteps := 1000000) (disch := first | exact dq | fail) only [go_sem]))
        (repeat' first
  | ((with_reducible first | refine Nx.go ?_ | refine rP ?_ | refine rR ?_ | refine And.intro ?_ ?_ | fail) <;> try (simp (maxSteps := 1000000) (disch := first | exact dq | fail) only [go_sem]))
  | ((with_reducible refine Sp.go ?_ ?_) <;> intro h <;> (try (simp (maxSteps := 1000000) (disch := first | exact dq | fail) only [go_sem] at h)) <;> try (simp (maxSteps := 1000000) (disch := first | exact dq | fail) only [go_sem, h])) | fail)
    all_goals
      have hzr : rk5 m x0 x1 = 0 := hr0 (fun g => by first | exact absurd g.2 (of_eq_false p2) | exact absurd g.1 (of_eq_false p1))
      rw [hzr] at hRank
      rw [hz, hb0] at hCode
      rcases hX1 with ⟨q1, q2, ha, hmx⟩ | ⟨q1, q2, ha, hmx⟩ | ⟨q1, q2, ha, hmx⟩
      all_goals
        rw [ha] at hAt
        (repeat' first
  | ((with_reducible first | refine Nx.go ?_ | refine rP ?_ | refine rR ?_ | refine And.intro ?_ ?_ | fail) <;> try (simp (maxSteps := 1000000) (disch := first | exact dq | fail) only [go_sem, c1, p1, p2, q1, q2, hmx, decide_true, decide_false]))
  | ((with_reducible refine Sp.go ?_ ?_) <;> intro h <;> (try (simp (maxSteps := 1000000) (disch := first | exact dq | fail) only [go_sem] at h)) <;> try (simp (maxSteps := 1000000) (disch := first | exact dq | fail) only [go_sem, h, c1, p1, p2, q1, q2, hmx, decide_true, decide_false])) | fail)
        all_goals (try first | exact of_eq_true q1 | exact of_eq_true q2 | omega)
        ((with_reducible first | apply left_callf | apply leftD_callf | apply leftF_callf); (· with_reducible rfl); (· (simp (maxSteps := 1000000) (disch := first | exact dq | fail) only [go_sem]) <;> rfl); (· exact hList); try (simp (maxSteps := 1000000) (disch := first | exact dq | fail) only [go_sem]))
        (repeat' first
  | ((with_reducible first | refine Nx.go ?_ | refine rP ?_ | refine rR ?_ | refine And.intro ?_ ?_ | fail) <;> try (simp (maxSteps := 1000000) (disch := first | exact dq | fail) only [go_sem]))
  | ((with_reducible refine Sp.go ?_ ?_) <;> intro h <;> (try (simp (maxSteps := 1000000) (disch := first | exact dq | fail) only [go_sem] at h)) <;> try (simp (maxSteps := 1000000) (disch := first | exact dq | fail) only [go_sem, h])) | fail)
        ((with_reducible first | apply left_callf | apply leftD_callf | apply leftF_callf); (· with_reducible rfl); (· (simp (maxSteps := 1000000) (disch := first | exact dq | fail) only [go_sem]) <;> rfl); (· exact hSame); try (simp (maxSteps := 1000000) (disch := first | exact dq | fail) only [go_sem]))
        (repeat' first
  | ((with_reducible first | refine Nx.go ?_ | refine rP ?_ | refine rR ?_ | refine And.intro ?_ ?_ | fail) <;> try (simp (maxSteps := 1000000) (disch := first | exact dq | fail) only [go_sem]))
  | ((with_reducible refine Sp.go ?_ ?_) <;> intro h <;> (try (simp (maxSteps := 1000000) (disch := first | exact dq | fail) only [go_sem] at h)) <;> try (simp (maxSteps := 1000000) (disch := first | exact dq | fail) only [go_sem, h])) | fail)
        ((with_reducible first | apply left_callf | apply leftD_callf | apply leftF_callf); (· with_reducible rfl); (· (simp (maxSteps := 1000000) (disch := first | exact dq | fail) only [go_sem]) <;> rfl); (· exact hLen); try (simp (maxSteps := 1000000) (disch := first | exact dq | fail) only [go_sem]))
        (repeat' first
  | ((with_reducible first | refine Nx.go ?_ | refine rP ?_ | refine rR ?_ | refine And.intro ?_ ?_ | fail) <;> try (simp (maxSteps := 1000000) (disch := first | exact dq | fail) only [go_sem]))
  | ((with_reducible refine Sp.go ?_ ?_) <;> intro h <;> (try (simp (maxSteps := 1000000) (disch := first | exact dq | fail) only [go_sem] at h)) <;> try (simp (maxSteps := 1000000) (disch := first | exact dq | fail) only [go_sem, h])) | fail)
        ((with_reducible first | apply left_callf | apply leftD_callf | apply leftF_callf); (· with_reducible rfl); (· (simp (maxSteps := 1000000) (disch := first | exact dq | fail) only [go_sem]) <;> rfl); (· exact hSize); try (simp (maxSteps := 1000000) (disch := first | exact dq | fail) only [go_sem]))
        (repeat' first
  | ((with_reducible first | refine Nx.go ?_ | refine rP ?_ | refine rR ?_ | refine And.intro ?_ ?_ | fail) <;> try (simp (maxSteps := 1000000) (disch := first | exact dq | fail) only [go_sem]))
  | ((with_reducible refine Sp.go ?_ ?_) <;> intro h <;> (try (simp (maxSteps := 1000000) (disch := first | exact dq | fail) only [go_sem] at h)) <;> try (simp (maxSteps := 1000000) (disch := first | exact dq | fail) only [go_sem, h])) | fail)
        ((with_reducible first | apply left_callf | apply leftD_callf | apply leftF_callf); (· with_reducible rfl); (· (simp (maxSteps := 1000000) (disch := first | exact dq | fail) only [go_sem]) <;> rfl); (· exact hCost); try (simp (maxSteps := 1000000) (disch := first | exact dq | fail) only [go_sem]))
        (repeat' first
  | ((with_reducible first | refine Nx.go ?_ | refine rP ?_ | refine rR ?_ | refine And.intro ?_ ?_ | fail) <;> try (simp (maxSteps := 1000000) (disch := first | exact dq | fail) only [go_sem]))
  | ((with_reducible refine Sp.go ?_ ?_) <;> intro h <;> (try (simp (maxSteps := 1000000) (disch := first | exact dq | fail) only [go_sem] at h)) <;> try (simp (maxSteps := 1000000) (disch := first | exact dq | fail) only [go_sem, h])) | fail)
        ((with_reducible first | apply left_callf | apply leftD_callf | apply leftF_callf); (· with_reducible rfl); (· (simp (maxSteps := 1000000) (disch := first | exact dq | fail) only [go_sem]) <;> rfl); (· exact hCode); try (simp (maxSteps := 1000000) (disch := first | exact dq | fail) only [go_sem]))
        (repeat' first
  | ((with_reducible first | refine Nx.go ?_ | refine rP ?_ | refine rR ?_ | refine And.intro ?_ ?_ | fail) <;> try (simp (maxSteps := 1000000) (disch := first | exact dq | fail) only [go_sem]))
  | ((with_reducible refine Sp.go ?_ ?_) <;> intro h <;> (try (simp (maxSteps := 1000000) (disch := first | exact dq | fail) only [go_sem] at h)) <;> try (simp (maxSteps := 1000000) (disch := first | exact dq | fail) only [go_sem, h])) | fail)
        ((with_reducible first | apply left_callf | apply leftD_callf | apply leftF_callf); (· with_reducible rfl); (· (simp (maxSteps := 1000000) (disch := first | exact dq | fail) only [go_sem]) <;> rfl); (· exact hAt); try (simp (maxSteps := 1000000) (disch := first | exact dq | fail) only [go_sem]))
        (repeat' first
  | ((with_reducible first | refine Nx.go ?_ | refine rP ?_ | refine rR ?_ | refine And.intro ?_ ?_ | fail) <;> try (simp (maxSteps := 1000000) (disch := first | exact dq | fail) only [go_sem]))
  | ((with_reducible refine Sp.go ?_ ?_) <;> intro h <;> (try (simp (maxSteps := 1000000) (disch := first | exact dq | fail) only [go_sem] at h)) <;> try (simp (maxSteps := 1000000) (disch := first | exact dq | fail) only [go_sem, h])) | fail)
        ((with_reducible first | apply left_callf | apply leftD_callf | apply leftF_callf); (· with_reducible rfl); (· (simp (maxSteps := 1000000) (disch := first | exact dq | fail) only [go_sem]) <;> rfl); (· exact hRank); try (simp (maxSteps := 1000000) (disch := first | exact dq | fail) only [go_sem]))
        (repeat' first
  | ((with_reducible first | refine Nx.go ?_ | refine rP ?_ | refine rR ?_ | refine And.intro ?_ ?_ | fail) <;> try (simp (maxSteps := 1000000) (disch := first | exact dq | fail) only [go_sem]))
  | ((with_reducible refine Sp.go ?_ ?_) <;> intro h <;> (try (simp (maxSteps := 1000000) (disch := first | exact dq | fail) only [go_sem] at h)) <;> try (simp (maxSteps := 1000000) (disch := first | exact dq | fail) only [go_sem, h])) | fail)
        ((with_reducible first | apply left_callf | apply leftD_callf | apply leftF_callf); (· with_reducible rfl); (· (simp (maxSteps := 1000000) (disch := first | exact dq | fail) only [go_sem]) <;> rfl); (· exact hv1); try (simp (maxSteps := 1000000) (disch := first | exact dq | fail) only [go_sem]))
        (repeat' first
  | ((with_reducible first | refine Nx.go ?_ | refine rP ?_ | refine rR ?_ | refine And.intro ?_ ?_ | fail) <;> try (simp (maxSteps := 1000000) (disch := first | exact dq | fail) only [go_sem]))
  | ((with_reducible refine Sp.go ?_ ?_) <;> intro h <;> (try (simp (maxSteps := 1000000) (disch := first | exact dq | fail) only [go_sem] at h)) <;> try (simp (maxSteps := 1000000) (disch := first | exact dq | fail) only [go_sem, h])) | fail)
        ((with_reducible first | apply left_callf | apply leftD_callf | apply leftF_callf); (· with_reducible rfl); (· (simp (maxSteps := 1000000) (disch := first | exact dq | fail) only [go_sem]) <;> rfl); (· exact hv2); try (simp (maxSteps := 1000000) (disch := first | exact dq | fail) only [go_sem]))
        (repeat' first
  | ((with_reducible first | refine Nx.go ?_ | refine rP ?_ | refine rR ?_ | refine And.intro ?_ ?_ | fail) <;> try (simp (maxSteps := 1000000) (disch := first | exact dq | fail) only [go_sem]))
  | ((with_reducible refine Sp.go ?_ ?_) <;> intro h <;> (try (simp (maxSteps := 1000000) (disch := first | exact dq | fail) only [go_sem] at h)) <;> try (simp (maxSteps := 1000000) (disch := first | exact dq | fail) only [go_sem, h])) | fail)
  · have hN := New_no2 m S (by omega) (by omega) (by omega) hgood
    have hMay := RefMay_spec m S (by omega)
    rw [mayB_no (by omega) (by omega) hgood] at hMay
    have hZ := zLen5
    unfold shZ at *
    (repeat' first
  | ((with_reducible first | refine Nx.go ?_ | refine rP ?_ | refine rR ?_ | refine And.intro ?_ ?_ | fail) <;> try (simp (maxSteps := 1000000) (disch := first | exact dq | fail) only [go_sem]))
  | ((with_reducible refine Sp.go ?_ ?_) <;> intro h <;> (try (simp (maxSteps := 1000000) (disch := first | exact dq | fail) only [go_sem] at h)) <;> try (simp (maxSteps := 1000000) (disch := first | exact dq | fail) only [go_sem, h])) | fail)
    ((with_reducible first | apply left_callf | apply leftD_callf | apply leftF_callf); (· with_reducible rfl); (· (simp (maxSteps := 1000000) (disch := first | exact dq | fail) only [go_sem]) <;> rfl); (· exact hN); try (simp (maxSteps := 1000000) (disch := first | exact dq | fail) only [go_sem]))
    (repeat' first
  | ((with_reducible first | refine Nx.go ?_ | refine rP ?_ | refine rR ?_ | refine And.intro ?_ ?_ | fail) <;> try (simp (maxSteps := 1000000) (disch := first | exact dq | fail) only [go_sem]))
  | ((with_reducible refine Sp.go ?_ ?_) <;> intro h <;> (try (simp (maxSteps := 1000000) (disch := first | exact dq | fail) only [go_sem] at h)) <;> try (simp (maxSteps := 1000000) (disch := first | exact dq | fail) only [go_sem, h])) | fail)
    ((with_reducible first | apply left_callf | apply leftD_callf | apply leftF_callf); (· with_reducible rfl); (· (simp (maxSteps := 1000000) (disch := first | exact dq | fail) only [go_sem]) <;> rfl); (· exact hMay); try (simp (maxSteps := 1000000) (disch := first | exact dq | fail) only [go_sem]))
    (repeat' first
  | ((with_reducible first | refine Nx.go ?_ | refine rP ?_ | refine rR ?_ | refine And.intro ?_ ?_ | fail) <;> try (simp (maxSteps := 1000000) (disch := first | exact dq | fail) only [go_sem]))
  | ((with_reducible refine Sp.go ?_ ?_) <;> intro h <;> (try (simp (maxSteps := 1000000) (disch := first | exact dq | fail) only [go_sem] at h)) <;> try (simp (maxSteps := 1000000) (disch := first | exact dq | fail) only [go_sem, h])) | fail)
    ((with_reducible first | apply left_callf | apply leftD_callf | apply leftF_callf); (· with_reducible rfl); (· (simp (maxSteps := 1000000) (disch := first | exact dq | fail) only [go_sem]) <;> rfl); (· exact hZ); try (simp (maxSteps := 1000000) (disch := first | exact dq | fail) only [go_sem]))
    (repeat' first
  | ((with_reducible first | refine Nx.go ?_ | refine rP ?_ | refine rR ?_ | refine And.intro ?_ ?_ | fail) <;> try (simp (maxSteps := 1000000) (disch := first | exact dq | fail) only [go_sem]))
  | ((with_reducible refine Sp.go ?_ ?_) <;> intro h <;> (try (simp (maxSteps := 1000000) (disch := first | exact dq | fail) only [go_sem] at h)) <;> try (simp (maxSteps := 1000000) (disch := first | exact dq | fail) only [go_sem, h])) | fail)
theorem ShapedTells_four (l : List Int) (q : List Int) (raw : Bool) (hq : q.length = 4) (hw : ∀ z ∈ q, small z) : PCalls Tryz.prog 4 [inl l, .agg (q.map (IV.int .i64)), .bool raw] (.bool true) := by
  match q, hq with
  | [a, b, c, d], _ => exact ShapedTells_spec l a b c d raw (hw b (by simp))
end Go.Proofs.YtpjncojljamacaaGreat.AM
