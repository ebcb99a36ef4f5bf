
/- Chapter 5: the law ShapedOrder. Any numbers. -/
import Derived.Test.YtpjncojljamacaaZT
set_option linter.unusedVariables false
set_option linter.unusedSimpArgs false
set_option maxRecDepth 20000
namespace Go.Proofs.Ytpjncojljamacaa.AM
open Go Go.RowKit

theorem bmp_swap (o : List Int) (a b : Nat) : (o.set a (o.getD a 0 + 1)).set b ((o.set a (o.getD a 0 + 1)).getD b 0 + 1) = (o.set b (o.getD b 0 + 1)).set a ((o.set b (o.getD b 0 + 1)).getD a 0 + 1) := by
  by_cases e : a = b
  · subst e; rfl
  · rw [set_getD, set_getD, if_neg (fun h => e h.1.symm), if_neg (fun h => e h.1), List.set_comm _ _ e]
theorem cnt5_rev (l : List Int) (size : Nat) : cnt5 l.reverse size = cnt5 l size := by
  unfold cnt5 bmpL
  rw [List.foldl_reverse]
  generalize List.replicate size (0 : Int) = o
  rw [List.foldr_eq_foldl_reverse]
  exact (List.reverse_perm l).foldl_eq' (fun x _ y _ z => bmp_swap z _ _) o
theorem cP_count (p : Int → Bool) (l : List Int) : ∀ i, i ≤ l.length → cP p l i = (l.take i).countP p
  | 0, _ => by rw [List.take_zero]; rfl
  | i + 1, h => by
    rw [take_snoc l (by omega), List.countP_append, ← cP_count p l i (by omega)]
    show cP p l i + (if p (l.getD i 0) = true then 1 else 0) = _
    rw [List.countP_cons, List.countP_nil, Nat.zero_add]
theorem rk5_rev (l : List Int) (c : Int) : rk5 l.reverse c l.length = rk5 l c l.length := by
  unfold rk5
  rw [List.length_reverse, show (min (max (l.length : Int) 0) (l.length : Int)).toNat = l.length from by omega, cP_count _ _ _ (by rw [List.length_reverse]; omega), cP_count _ _ _ (Nat.le_refl _), List.take_of_length_le (by rw [List.length_reverse]; omega), List.take_length]
  exact (List.reverse_perm l).countP_eq _
theorem cost_rev (cd : Int → List Bool) (l : List Int) : costL cd l.reverse = costL cd l := by
  unfold costL
  exact ((List.reverse_perm l).map _).sum_nat
theorem rev_at (l : List Int) {k : Nat} (h : k < l.length) : l.reverse.getD k 0 = l.getD (l.length - 1 - k) 0 := by
  rw [List.getD, List.getD, List.getElem?_reverse h]
set_option maxHeartbeats 4000000 in
theorem ShapedOrder_spec (l : List Int) (sz : Int) : PCalls Try.prog 5 [inl l, .int .i64 sz] (.bool true) := by
  have hY := symbols5_spec l sz
  have hrng := sys5_ok (show (0 : Int) < 1 + sz % 32 by omega) l
  have hml := sys5_len (1 + sz % 32) l
  obtain ⟨S, hS⟩ : ∃ S : Nat, 1 + sz % 32 = (S : Int) := ⟨(1 + sz % 32).toNat, by omega⟩
  rw [hS] at hY hrng hml
  generalize sys5 (S : Int) l = m at *
  have hS1 : 1 ≤ S ∧ S ≤ 32 := by omega
  have hN := New_ok m S (by omega) (by omega) (by omega) hrng
  have hrn2 : ∀ x ∈ m.reverse, 0 ≤ x ∧ x < S := fun x hx => hrng x (List.mem_reverse.1 hx)
  have hrl : m.reverse.length = m.length := List.length_reverse
  have hN2 := New_ok m.reverse S (by omega) (by omega) (by omega) hrn2
  refine PCalls.of_aw Try.func5 rfl (by unfold Callable; kernel_rfl) (by kernel_rfl) (by simp [Try.ntmps5]) ?_; rw [Try.ntmps5, Try.results5]; (simp (maxSteps := 1000000) (disch := first | exact dq | fail) only [go_sem])
  (repeat' first
  | ((with_reducible first | refine Nx.go ?_ | refine rP ?_ | refine rR ?_ | refine And.intro ?_ ?_ | fail) <;> try (simp (maxSteps := 1000000) (disch := first | exact dq | fail) only [go_sem]))
  | ((with_reducible refine Sp.go ?_ ?_) <;> intro h <;> (try (simp (maxSteps := 1000000) (disch := first | exact dq | fail) only [go_sem] at h)) <;> try (simp (maxSteps := 1000000) (disch := first | exact dq | fail) only [go_sem, h])) | fail)
  ((with_reducible first | apply left_callf | apply leftD_callf | apply leftF_callf); (· with_reducible rfl); (· (simp (maxSteps := 1000000) (disch := first | exact dq | fail) only [go_sem]) <;> rfl); (· exact awake5_spec); try (simp (maxSteps := 1000000) (disch := first | exact dq | fail) only [go_sem]))
  (repeat' first
  | ((with_reducible first | refine Nx.go ?_ | refine rP ?_ | refine rR ?_ | refine And.intro ?_ ?_ | fail) <;> try (simp (maxSteps := 1000000) (disch := first | exact dq | fail) only [go_sem]))
  | ((with_reducible refine Sp.go ?_ ?_) <;> intro h <;> (try (simp (maxSteps := 1000000) (disch := first | exact dq | fail) only [go_sem] at h)) <;> try (simp (maxSteps := 1000000) (disch := first | exact dq | fail) only [go_sem, h])) | fail)
  ((with_reducible first | apply left_callf | apply leftD_callf | apply leftF_callf); (· with_reducible rfl); (· (simp (maxSteps := 1000000) (disch := first | exact dq | fail) only [go_sem]) <;> rfl); (· exact hY); try (simp (maxSteps := 1000000) (disch := first | exact dq | fail) only [go_sem]))
  ((with_reducible refine aw_seq ?_); (with_reducible refine aw_region (aops_run ?_)); try (simp (maxSteps := 1000000) (disch := first | exact dq | fail) only [go_sem]))
  refine aw_cut ⟨87, sl [(5, .iv (.bool true)), (6, .iv (inl m)), (7, .iv (.int .i64 S)), (8, .iv (inl m.reverse))], [], 0⟩ ?_ ?_
  · (repeat' first
  | ((with_reducible first | refine Nx.go ?_ | refine rP ?_ | refine rR ?_ | refine And.intro ?_ ?_ | fail) <;> try (simp (maxSteps := 1000000) (disch := first | exact dq | fail) only [go_sem]))
  | ((with_reducible refine Sp.go ?_ ?_) <;> intro h <;> (try (simp (maxSteps := 1000000) (disch := first | exact dq | fail) only [go_sem] at h)) <;> try (simp (maxSteps := 1000000) (disch := first | exact dq | fail) only [go_sem, h])) | fail)
    refine aw_loop (α := Nat) (fun k => ⟨87, sl [(5, .iv (.bool true)), (6, .iv (inl m)), (7, .iv (.int .i64 S)), (8, .msl 0 0 k k), (9, .iv (.int .i64 ((m.length : Int) - 1 - k)))], [.row true 3 1 ((m.reverse.take k).map (IV.int .i64))], 0⟩)
      (fun k => k ≤ m.length) (fun k => m.length - k) 0 (wk_by [0] ?_) (Nat.zero_le _) ?_
    · (simp (maxSteps := 1000000) (disch := first | exact dq | fail) only [go_sem])
      rw [Int.sub_zero]
    rintro k hk
    have htl : (m.reverse.take k).length = k := by rw [List.length_take]; omega
    by_cases h : k < m.length
    · obtain ⟨n, hn⟩ : ∃ n : Nat, (m.length : Int) - 1 - k = (n : Int) := ⟨m.length - 1 - k, by omega⟩
      have hnm : n < m.length := by omega
      have ht := take_snoc m.reverse (show k < m.reverse.length by omega)
      rw [rev_at m h, show m.length - 1 - k = n from by omega] at ht
      rw [hn]
      have c1 : ((n : Int) ≥ 0) = True := eq_true (by omega)
      have hx : (m.length : Int) - 1 - ((k : Int) + 1) = (n : Int) - 1 := by omega
      (repeat' first
  | ((with_reducible first | refine Nx.go ?_ | refine rP ?_ | refine rR ?_ | refine And.intro ?_ ?_ | fail) <;> try (simp (maxSteps := 1000000) (disch := first | exact dq | fail) only [go_sem, htl, c1, decide_true]))
  | ((with_reducible refine Sp.go ?_ ?_) <;> intro h <;> (try (simp (maxSteps := 1000000) (disch := first | exact dq | fail) only [go_sem] at h)) <;> try (simp (maxSteps := 1000000) (disch := first | exact dq | fail) only [go_sem, h, htl, c1, decide_true])) | fail)
      all_goals (try omega)
      refine ⟨k + 1, by omega, wk_by [0] ?_, by omega⟩
      (simp (maxSteps := 1000000) (disch := first | exact dq | fail) only [go_sem, ht, hx, List.map_append, List.map_cons, List.map_nil])
      try rfl
    · obtain rfl : k = m.length := by omega
      have e : m.reverse.take m.length = m.reverse := List.take_of_length_le (by omega)
      have c1 : ((m.length : Int) - 1 - m.length ≥ 0) = False := eq_false (by omega)
      rw [e]
      (repeat' first
  | ((with_reducible first | refine Nx.go ?_ | refine rP ?_ | refine rR ?_ | refine And.intro ?_ ?_ | fail) <;> try (simp (maxSteps := 1000000) (disch := first | exact dq | fail) only [go_sem, c1, decide_false]))
  | ((with_reducible refine Sp.go ?_ ?_) <;> intro h <;> (try (simp (maxSteps := 1000000) (disch := first | exact dq | fail) only [go_sem] at h)) <;> try (simp (maxSteps := 1000000) (disch := first | exact dq | fail) only [go_sem, h, c1, decide_false])) | fail)
      refine (wk_frz (i := 8) (y := inl m.reverse) (M' := [.row false 3 1 (m.reverse.map (IV.int .i64))]) ?_).trans (wk_by [] ?_)
      · (simp (maxSteps := 1000000) (disch := first | exact dq | fail) only [go_sem, hrl, if_pos, List.take_of_length_le])
      · (simp (maxSteps := 1000000) (disch := first | exact dq | fail) only [go_sem])
  (repeat' first
  | ((with_reducible first | refine Nx.go ?_ | refine rP ?_ | refine rR ?_ | refine And.intro ?_ ?_ | fail) <;> try (simp (maxSteps := 1000000) (disch := first | exact dq | fail) only [go_sem]))
  | ((with_reducible refine Sp.go ?_ ?_) <;> intro h <;> (try (simp (maxSteps := 1000000) (disch := first | exact dq | fail) only [go_sem] at h)) <;> try (simp (maxSteps := 1000000) (disch := first | exact dq | fail) only [go_sem, h])) | fail)
  ((with_reducible refine left_callRs [] (hN) ?_ ?_); (· (simp (maxSteps := 1000000) (disch := first | exact dq | fail) only [go_sem])))
  rintro r M' ⟨rk, rfl, rfl, hrk⟩
  have h5 : Shp5 m S rk := ⟨by omega, by omega, by omega, hrng, hrk⟩
  have hC1 := Code5_spec h5
  have hK1 := fun c => Rank5_spec h5 c m.length
  have hO1 := Cost5_spec h5
  unfold shV cdV at hC1 hK1 hO1 ⊢
  (simp (maxSteps := 1000000) (disch := first | exact dq | fail) only [go_sem])
  (repeat' first
  | ((with_reducible first | refine Nx.go ?_ | refine rP ?_ | refine rR ?_ | refine And.intro ?_ ?_ | fail) <;> try (simp (maxSteps := 1000000) (disch := first | exact dq | fail) only [go_sem]))
  | ((with_reducible refine Sp.go ?_ ?_) <;> intro h <;> (try (simp (maxSteps := 1000000) (disch := first | exact dq | fail) only [go_sem] at h)) <;> try (simp (maxSteps := 1000000) (disch := first | exact dq | fail) only [go_sem, h])) | fail)
  ((with_reducible refine left_callRs [] (hN2) ?_ ?_); (· (simp (maxSteps := 1000000) (disch := first | exact dq | fail) only [go_sem])))
  rintro r M' ⟨rk2, rfl, rfl, hrk2⟩
  have h52 : Shp5 m.reverse S rk2 := ⟨by omega, by omega, by omega, hrn2, hrk2⟩
  have hC2 := Code5_spec h52
  have hK2 := fun c => Rank5_spec h52 c m.length
  have hO2 := Cost5_spec h52
  have hcz : cdZ m.reverse S = cdZ m S := by unfold cdZ; rw [cnt5_rev]
  rw [hcz] at hC2
  rw [cnt5_rev, cost_rev] at hO2
  simp only [rk5_rev] at hK2
  unfold shV cdV at hC2 hK2 hO2 ⊢
  rw [cnt5_rev] at *
  (simp (maxSteps := 1000000) (disch := first | exact dq | fail) only [go_sem])
  generalize IV.sl 1 (strR (kdsL (cnt5 m S))) = A3 at *
  generalize IV.map (keyR rk) (List.map (fun p => rankV (rwL (cdF (cnt5 m S)) m p)) rk) = A4 at *
  generalize IV.map (keyR (List.map (cdF (cnt5 m S)) (dst m))) (List.map (IV.int .i64) (dst m)) = A5 at *
  generalize IV.map (keyR rk2) (List.map (fun p => rankV (rwL (cdF (cnt5 m S)) m.reverse p)) rk2) = B4 at *
  generalize IV.map (keyR (List.map (cdF (cnt5 m S)) (dst m.reverse))) (List.map (IV.int .i64) (dst m.reverse)) = B5 at *
  (repeat' first
  | ((with_reducible first | refine Nx.go ?_ | refine rP ?_ | refine rR ?_ | refine And.intro ?_ ?_ | fail) <;> try (simp (maxSteps := 1000000) (disch := first | exact dq | fail) only [go_sem]))
  | ((with_reducible refine Sp.go ?_ ?_) <;> intro h <;> (try (simp (maxSteps := 1000000) (disch := first | exact dq | fail) only [go_sem] at h)) <;> try (simp (maxSteps := 1000000) (disch := first | exact dq | fail) only [go_sem, h])) | fail)
  refine aw_loop (α := Nat) (fun c => ⟨87, sl [(5, .iv (.bool true)), (6, .iv (inl m)), (7, .iv (.int .i64 S)), (10, .mp 0 0), (12, .mp 1 0), (14, .iv (.int .i64 c))],
    [.var 33 [.iv (.int .i64 m.length), .iv (.int .i64 S), .iv A3, .iv A4, .iv A5], .var 33 [.iv (.int .i64 m.reverse.length), .iv (.int .i64 S), .iv A3, .iv B4, .iv B5]], 0⟩)
    (fun c => c ≤ S) (fun c => S - c) 0 (wk_by [0, 1] ?_) (Nat.zero_le _) ?_
  · (simp (maxSteps := 1000000) (disch := first | exact dq | fail) only [go_sem])
  rintro c hc
  by_cases h : c < S
  · have c1 : (c : Int) < S := by omega
    have g1 := hC1 c
    have g2 := hC2 c
    have g3 := hK1 c
    have g4 := hK2 c
    (repeat' first
  | ((with_reducible first | refine Nx.go ?_ | refine rP ?_ | refine rR ?_ | refine And.intro ?_ ?_ | fail) <;> try (simp (maxSteps := 1000000) (disch := first | exact dq | fail) only [go_sem, c1, decide_true]))
  | ((with_reducible refine Sp.go ?_ ?_) <;> intro h <;> (try (simp (maxSteps := 1000000) (disch := first | exact dq | fail) only [go_sem] at h)) <;> try (simp (maxSteps := 1000000) (disch := first | exact dq | fail) only [go_sem, h, c1, decide_true])) | fail)
    ((with_reducible first | apply left_callf | apply leftD_callf | apply leftF_callf); (· with_reducible rfl); (· (simp (maxSteps := 1000000) (disch := first | exact dq | fail) only [go_sem]) <;> rfl); (· exact g1); try (simp (maxSteps := 1000000) (disch := first | exact dq | fail) only [go_sem]))
    (repeat' first
  | ((with_reducible first | refine Nx.go ?_ | refine rP ?_ | refine rR ?_ | refine And.intro ?_ ?_ | fail) <;> try (simp (maxSteps := 1000000) (disch := first | exact dq | fail) only [go_sem]))
  | ((with_reducible refine Sp.go ?_ ?_) <;> intro h <;> (try (simp (maxSteps := 1000000) (disch := first | exact dq | fail) only [go_sem] at h)) <;> try (simp (maxSteps := 1000000) (disch := first | exact dq | fail) only [go_sem, h])) | fail)
    ((with_reducible first | apply left_callf | apply leftD_callf | apply leftF_callf); (· with_reducible rfl); (· (simp (maxSteps := 1000000) (disch := first | exact dq | fail) only [go_sem]) <;> rfl); (· exact g2); try (simp (maxSteps := 1000000) (disch := first | exact dq | fail) only [go_sem]))
    (repeat' first
  | ((with_reducible first | refine Nx.go ?_ | refine rP ?_ | refine rR ?_ | refine And.intro ?_ ?_ | fail) <;> try (simp (maxSteps := 1000000) (disch := first | exact dq | fail) only [go_sem]))
  | ((with_reducible refine Sp.go ?_ ?_) <;> intro h <;> (try (simp (maxSteps := 1000000) (disch := first | exact dq | fail) only [go_sem] at h)) <;> try (simp (maxSteps := 1000000) (disch := first | exact dq | fail) only [go_sem, h])) | fail)
    ((with_reducible first | apply left_callf | apply leftD_callf | apply leftF_callf); (· with_reducible rfl); (· (simp (maxSteps := 1000000) (disch := first | exact dq | fail) only [go_sem]) <;> rfl); (· exact g3); try (simp (maxSteps := 1000000) (disch := first | exact dq | fail) only [go_sem]))
    (repeat' first
  | ((with_reducible first | refine Nx.go ?_ | refine rP ?_ | refine rR ?_ | refine And.intro ?_ ?_ | fail) <;> try (simp (maxSteps := 1000000) (disch := first | exact dq | fail) only [go_sem]))
  | ((with_reducible refine Sp.go ?_ ?_) <;> intro h <;> (try (simp (maxSteps := 1000000) (disch := first | exact dq | fail) only [go_sem] at h)) <;> try (simp (maxSteps := 1000000) (disch := first | exact dq | fail) only [go_sem, h])) | fail)
    ((with_reducible first | apply left_callf | apply leftD_callf | apply leftF_callf); (· with_reducible rfl); (· (simp (maxSteps := 1000000) (disch := first | exact dq | fail) only [go_sem]) <;> rfl); (· exact g4); try (simp (maxSteps := 1000000) (disch := first | exact dq | fail) only [go_sem]))
    (repeat' first
  | ((with_reducible first | refine Nx.go ?_ | refine rP ?_ | refine rR ?_ | refine And.intro ?_ ?_ | fail) <;> try (simp (maxSteps := 1000000) (disch := first | exact dq | fail) only [go_sem]))
  | ((with_reducible refine Sp.go ?_ ?_) <;> intro h <;> (try (simp (maxSteps := 1000000) (disch := first | exact dq | fail) only [go_sem] at h)) <;> try (simp (maxSteps := 1000000) (disch := first | exact dq | fail) only [go_sem, h])) | fail)
    refine ⟨c + 1, by omega, wk_by [0, 1] ?_, by omega⟩
    (simp (maxSteps := 1000000) (disch := first | exact dq | fail) only [go_sem])
  · obtain rfl : c = S := by omega
    have c1 : ¬ ((c : Int) < c) := by omega
    (repeat' first
  | ((with_reducible first | refine Nx.go ?_ | refine rP ?_ | refine rR ?_ | refine And.intro ?_ ?_ | fail) <;> try (simp (maxSteps := 1000000) (disch := first | exact dq | fail) only [go_sem, c1, decide_false]))
  | ((with_reducible refine Sp.go ?_ ?_) <;> intro h <;> (try (simp (maxSteps := 1000000) (disch := first | exact dq | fail) only [go_sem] at h)) <;> try (simp (maxSteps := 1000000) (disch := first | exact dq | fail) only [go_sem, h, c1, decide_false])) | fail)
    ((with_reducible first | apply left_callf | apply leftD_callf | apply leftF_callf); (· with_reducible rfl); (· (simp (maxSteps := 1000000) (disch := first | exact dq | fail) only [go_sem]) <;> rfl); (· exact hO1); try (simp (maxSteps := 1000000) (disch := first | exact dq | fail) only [go_sem]))
    (repeat' first
  | ((with_reducible first | refine Nx.go ?_ | refine rP ?_ | refine rR ?_ | refine And.intro ?_ ?_ | fail) <;> try (simp (maxSteps := 1000000) (disch := first | exact dq | fail) only [go_sem]))
  | ((with_reducible refine Sp.go ?_ ?_) <;> intro h <;> (try (simp (maxSteps := 1000000) (disch := first | exact dq | fail) only [go_sem] at h)) <;> try (simp (maxSteps := 1000000) (disch := first | exact dq | fail) only [go_sem, h])) | fail)
    ((with_reducible first | apply left_callf | apply leftD_callf | apply leftF_callf); (· with_reducible rfl); (· (simp (maxSteps := 1000000) (disch := first | exact dq | fail) only [go_sem]) <;> rfl); (· exact hO2); try (simp (maxSteps := 1000000) (disch := first | exact dq | fail) only [go_sem]))
    (repeat' first
  | ((with_reducible first | refine Nx.go ?_ | refine rP ?_ | refine rR ?_ | refine And.intro ?_ ?_ | fail) <;> try (simp (maxSteps := 1000000) (disch := first | exact dq | fail) only [go_sem]))
  | ((with_reducible refine Sp.go ?_ ?_) <;> intro h <;> (try (simp (maxSteps := 1000000) (disch := first | exact dq | fail) only [go_sem] at h)) <;> try (simp (maxSteps := 1000000) (disch := first | exact dq | fail) only [go_sem, h])) | fail)
end Go.Proofs.Ytpjncojljamacaa.AM
