
/- The document's answers for rows of bits: get, ones, number. No condition but lengths that fit. -/
import Derived.Test.YtnmfnekfobbabaaF8
import Derived.Test.YtnmfnekfobbabaaF10
set_option linter.unusedVariables false
set_option linter.unusedSimpArgs false
set_option maxRecDepth 20000
namespace Go.Proofs.Ytnmfnekfobbabaa.AM
open Go Go.RowKit

theorem oneAt_get (l : List Bool) {i : Int} (h0 : 0 ≤ i) (h1 : i < l.length) : (oneAt l i == 1) = l.getD i.toNat false := by
  rw [oneAt_eq, decide_eq_true h0, Bool.true_and]
/-- One place more. -/
theorem onesAt_step (l : List Bool) (a b : Int) (j : Nat) (h : j < l.length) : onesAt l a (min b ((j : Int) + 1)) = onesAt l a (min b j) + (if a ≤ j ∧ (j : Int) < b then oneAt l j else 0) := by
  have hs := cnt_succ l j h
  unfold onesAt
  split
  · rename_i hc
    rw [show (min (max (min b ((j : Int) + 1)) (min (max a 0) (l.length : Int))) (l.length : Int)).toNat = j + 1 from by omega, show (min (max (min b (j : Int)) (min (max a 0) (l.length : Int))) (l.length : Int)).toNat = j from by omega]
    omega
  · rename_i hc
    rw [show (min (max (min b ((j : Int) + 1)) (min (max a 0) (l.length : Int))) (l.length : Int)).toNat = (min (max (min b (j : Int)) (min (max a 0) (l.length : Int))) (l.length : Int)).toNat from by omega]
    omega
theorem onesAt_zero (l : List Bool) (a b : Int) : onesAt l a (min b 0) = 0 := by
  unfold onesAt
  rw [show (min (max (min b 0) (min (max a 0) (l.length : Int))) (l.length : Int)) = min (max a 0) (l.length : Int) from by omega]; omega
theorem onesAt_done (l : List Bool) (a b : Int) : onesAt l a (min b l.length) = onesAt l a b := by
  unfold onesAt
  rw [show (min (max (min b (l.length : Int)) (min (max a 0) (l.length : Int))) (l.length : Int)) = min (max b (min (max a 0) (l.length : Int))) (l.length : Int) from by omega]

theorem wrapU_nat (n : Nat) : IntKind.u64.wrap (n : Int) = ((n % 18446744073709551616 : Nat) : Int) := by
  show (if (false && decide ((n : Int) % (2 ^ 64 : Int) ≥ (2 ^ (64 - 1) : Int))) = true then (n : Int) % (2 ^ 64 : Int) - (2 ^ 64 : Int) else (n : Int) % (2 ^ 64 : Int)) = _
  simp only [Bool.false_and, Bool.false_eq_true, if_false]
  omega
theorem w_step (i : Nat) : IntKind.u64.wrap (((2 ^ i % 18446744073709551616 : Nat) : Int) * 2) = ((2 ^ (i + 1) % 18446744073709551616 : Nat) : Int) := by
  rw [show ((2 ^ i % 18446744073709551616 : Nat) : Int) * 2 = ((2 ^ i % 18446744073709551616 * 2 : Nat) : Int) from by omega, wrapU_nat, Nat.pow_succ, Nat.mod_mul_mod]
theorem numN_one (l : List Bool) (i : Nat) (h : i < l.length) : numN l i 1 = (l.getD i false).toNat := by
  unfold numN
  have e : (l.drop i).take 1 = [l.getD i false] := by
    rw [List.drop_eq_getElem_cons h, List.take_succ_cons, List.take_zero]
    simp [List.getD, List.getElem?_eq_getElem h]
  rw [e]; simp [natOf]
theorem n_bit (l : List Bool) (a i : Nat) (h : a + i < l.length) : numN l a (i + 1) = numN l a i + 2 ^ i * (l.getD (a + i) false).toNat := by
  rw [numN_add l a i 1 (by omega), numN_one l (a + i) h]
theorem n_step (l : List Bool) (a i : Nat) (hi : i < 64) (h : a + i < l.length) (hb : l.getD (a + i) false = true) : IntKind.u64.wrap ((numN l a i : Int) + ((2 ^ i % 18446744073709551616 : Nat) : Int)) = (numN l a (i + 1) : Int) := by
  have h1 := n_bit l a i h
  rw [hb] at h1
  have h2 := numN_lt l a (i + 1)
  have h3 : (2 : Nat) ^ (i + 1) ≤ 2 ^ 64 := Nat.pow_le_pow_right (by decide) (by omega)
  have h4 := two_pow_lt64 hi
  rw [Nat.mod_eq_of_lt h4, ← Int.natCast_add, wrap64N _ (by simp at h1; omega), h1]; simp
theorem RefNumber_ok (l : List Bool) (a w : Nat) (hl : l.length ≤ 100000000000) (hw : w ≤ 64) (ha : a + w ≤ l.length) : PCalls Try.prog 76 [blsV l, .int .i64 a, .int .i64 w] (.tup [.int .u64 (numN l a w : Int), .int .i64 0]) := by
  refine PCalls.of_aw Try.func76 rfl (by unfold Callable; kernel_rfl) (by kernel_rfl) (by simp [Try.ntmps76]) ?_; rw [Try.ntmps76, Try.results76]; (simp (maxSteps := 1000000) (disch := first | omega | (simp only [List.length_append, List.length_cons, List.length_nil, List.length_map, bitsOf_len, readB_len, Int.natCast_add, Int.natCast_succ, Nat.zero_add, natCast_one, natCast_zero] <;> omega) | fail) only [go_sem])
  (repeat' (first
    | ((first | with_reducible refine aw_seq ?_ | with_reducible refine aw_region (aops_run ?_) | (with_reducible refine aw_regionD (fun _ => .p) mixed ?_ (dops_run ?_); (· kernel_rfl)) | (with_reducible refine aw_regionD (fun _ => .r) mixed ?_ (dops_run ?_); (· kernel_rfl)) | with_reducible refine aw_condK ?_ | with_reducible refine aw_skip ?_ | with_reducible refine aw_ret ?_ | with_reducible refine aw_exit ?_ | with_reducible refine aw_label ?_ | with_reducible refine aw_block ?_ | with_reducible refine aw_scope ?_ | with_reducible refine And.intro ?_ ?_) <;> (try (simp (maxSteps := 1000000) (disch := first | omega | (simp only [List.length_append, List.length_cons, List.length_nil, List.length_map, bitsOf_len, readB_len, Int.natCast_add, Int.natCast_succ, Nat.zero_add, natCast_one, natCast_zero] <;> omega) | fail) only [go_sem])))
    | ((first | with_reducible refine wantK_split (fun h => ?_) (fun h => ?_) | with_reducible refine condK_split (fun h => ?_) (fun h => ?_) | with_reducible refine pickV_split (fun h => ?_) (fun h => ?_)) <;> (try (simp (maxSteps := 1000000) (disch := first | omega | (simp only [List.length_append, List.length_cons, List.length_nil, List.length_map, bitsOf_len, readB_len, Int.natCast_add, Int.natCast_succ, Nat.zero_add, natCast_one, natCast_zero] <;> omega) | fail) only [go_sem] at h)) <;> (try (simp (maxSteps := 1000000) (disch := first | omega | (simp only [List.length_append, List.length_cons, List.length_nil, List.length_map, bitsOf_len, readB_len, Int.natCast_add, Int.natCast_succ, Nat.zero_add, natCast_one, natCast_zero] <;> omega) | fail) only [go_sem, h])))))
  all_goals (try omega)
  refine aw_loop (α := Nat) (fun i => ⟨50, sl [(0, .iv (.sl 1 (l.map .bool))), (1, .iv (.int .i64 a)), (2, .iv (.int .i64 w)), (8, .iv (.int .u64 (numN l a i : Int))), (9, .iv (.int .u64 ((2 ^ i % 18446744073709551616 : Nat) : Int))), (10, .iv (.int .i64 i))], [], 0⟩)
    (fun i => i ≤ w) (fun i => w - i) 0 (wk_by [] ?_) (by omega) ?_
  · (simp (maxSteps := 1000000) (disch := first | omega | (simp only [List.length_append, List.length_cons, List.length_nil, List.length_map, bitsOf_len, readB_len, Int.natCast_add, Int.natCast_succ, Nat.zero_add, natCast_one, natCast_zero] <;> omega) | fail) only [go_sem])
    simp [numN_zero]
  rintro i hi
  (repeat' (first
    | ((first | with_reducible refine aw_seq ?_ | with_reducible refine aw_region (aops_run ?_) | (with_reducible refine aw_regionD (fun _ => .p) mixed ?_ (dops_run ?_); (· kernel_rfl)) | (with_reducible refine aw_regionD (fun _ => .r) mixed ?_ (dops_run ?_); (· kernel_rfl)) | with_reducible refine aw_condK ?_ | with_reducible refine aw_skip ?_ | with_reducible refine aw_ret ?_ | with_reducible refine aw_exit ?_ | with_reducible refine aw_label ?_ | with_reducible refine aw_block ?_ | with_reducible refine aw_scope ?_ | with_reducible refine And.intro ?_ ?_) <;> (try (simp (maxSteps := 1000000) (disch := first | omega | (simp only [List.length_append, List.length_cons, List.length_nil, List.length_map, bitsOf_len, readB_len, Int.natCast_add, Int.natCast_succ, Nat.zero_add, natCast_one, natCast_zero] <;> omega) | fail) only [go_sem])))
    | ((first | with_reducible refine wantK_split (fun h => ?_) (fun h => ?_) | with_reducible refine condK_split (fun h => ?_) (fun h => ?_) | with_reducible refine pickV_split (fun h => ?_) (fun h => ?_)) <;> (try (simp (maxSteps := 1000000) (disch := first | omega | (simp only [List.length_append, List.length_cons, List.length_nil, List.length_map, bitsOf_len, readB_len, Int.natCast_add, Int.natCast_succ, Nat.zero_add, natCast_one, natCast_zero] <;> omega) | fail) only [go_sem] at h)) <;> (try (simp (maxSteps := 1000000) (disch := first | omega | (simp only [List.length_append, List.length_cons, List.length_nil, List.length_map, bitsOf_len, readB_len, Int.natCast_add, Int.natCast_succ, Nat.zero_add, natCast_one, natCast_zero] <;> omega) | fail) only [go_sem, h])))))
  all_goals (try omega)
  · have e1 : ((a : Int) + (i : Int)).toNat = a + i := by omega
    rw [e1] at h
    refine ⟨i + 1, by omega, wk_by [] ?_, by omega⟩
    (simp (maxSteps := 1000000) (disch := first | omega | (simp only [List.length_append, List.length_cons, List.length_nil, List.length_map, bitsOf_len, readB_len, Int.natCast_add, Int.natCast_succ, Nat.zero_add, natCast_one, natCast_zero] <;> omega) | fail) only [go_sem, n_step l a i (by omega) (by omega) h, w_step])
  · have e1 : ((a : Int) + (i : Int)).toNat = a + i := by omega
    rw [e1] at h
    have hn := n_bit l a i (by omega)
    rw [h] at hn
    refine ⟨i + 1, by omega, wk_by [] ?_, by omega⟩
    (simp (maxSteps := 1000000) (disch := first | omega | (simp only [List.length_append, List.length_cons, List.length_nil, List.length_map, bitsOf_len, readB_len, Int.natCast_add, Int.natCast_succ, Nat.zero_add, natCast_one, natCast_zero] <;> omega) | fail) only [go_sem, w_step])
    rw [hn]; simp
  · rw [show i = w from by omega]

theorem RefNumber_spec (l : List Bool) (a w : Int) (hl : l.length ≤ 100000000000) : PCalls Try.prog 76 [blsV l, .int .i64 a, .int .i64 w] (.tup [.int .u64 (numV l a w : Int), .int .i64 (numE l a w)]) := by
  by_cases hok : 0 ≤ w ∧ w ≤ 64 ∧ 0 ≤ a ∧ a + w ≤ l.length
  · obtain ⟨h1, h2, h3, h4⟩ := hok
    have e : numE l a w = 0 := by unfold numE; rw [if_neg (by omega), if_neg (by omega)]
    have := RefNumber_ok l a.toNat w.toNat hl (by omega) (by omega)
    rw [numV, if_pos e, e]
    rwa [Int.toNat_of_nonneg h1, Int.toNat_of_nonneg h3] at this
  · refine PCalls.of_aw Try.func76 rfl (by unfold Callable; kernel_rfl) (by kernel_rfl) (by simp [Try.ntmps76]) ?_; rw [Try.ntmps76, Try.results76]; (simp (maxSteps := 1000000) (disch := first | omega | (simp only [List.length_append, List.length_cons, List.length_nil, List.length_map, bitsOf_len, readB_len, Int.natCast_add, Int.natCast_succ, Nat.zero_add, natCast_one, natCast_zero] <;> omega) | fail) only [go_sem])
    (repeat' (first
    | ((first | with_reducible refine aw_seq ?_ | with_reducible refine aw_region (aops_run ?_) | (with_reducible refine aw_regionD (fun _ => .p) mixed ?_ (dops_run ?_); (· kernel_rfl)) | (with_reducible refine aw_regionD (fun _ => .r) mixed ?_ (dops_run ?_); (· kernel_rfl)) | with_reducible refine aw_condK ?_ | with_reducible refine aw_skip ?_ | with_reducible refine aw_ret ?_ | with_reducible refine aw_exit ?_ | with_reducible refine aw_label ?_ | with_reducible refine aw_block ?_ | with_reducible refine aw_scope ?_ | with_reducible refine And.intro ?_ ?_) <;> (try (simp (maxSteps := 1000000) (disch := first | omega | (simp only [List.length_append, List.length_cons, List.length_nil, List.length_map, bitsOf_len, readB_len, Int.natCast_add, Int.natCast_succ, Nat.zero_add, natCast_one, natCast_zero] <;> omega) | fail) only [go_sem])))
    | ((first | with_reducible refine wantK_split (fun h => ?_) (fun h => ?_) | with_reducible refine condK_split (fun h => ?_) (fun h => ?_) | with_reducible refine pickV_split (fun h => ?_) (fun h => ?_)) <;> (try (simp (maxSteps := 1000000) (disch := first | omega | (simp only [List.length_append, List.length_cons, List.length_nil, List.length_map, bitsOf_len, readB_len, Int.natCast_add, Int.natCast_succ, Nat.zero_add, natCast_one, natCast_zero] <;> omega) | fail) only [go_sem] at h)) <;> (try (simp (maxSteps := 1000000) (disch := first | omega | (simp only [List.length_append, List.length_cons, List.length_nil, List.length_map, bitsOf_len, readB_len, Int.natCast_add, Int.natCast_succ, Nat.zero_add, natCast_one, natCast_zero] <;> omega) | fail) only [go_sem, h])))))
    all_goals (try omega)
    all_goals
      have key : ∀ e : Int, e ≠ 0 → numE l a w = e → some (IV.tup [.int .u64 0, .int .i64 e]) = some (IV.tup [.int .u64 (numV l a w : Int), .int .i64 (numE l a w)]) := by
        intro e he h1
        rw [numV, h1, if_neg he]; rfl
      refine key _ (by decide) ?_
      unfold numE
    · rw [if_pos (by omega)]
    · rw [if_neg (by omega), if_pos (by omega)]
    · rw [if_neg (by omega), if_pos (by omega)]
    · rw [if_neg (by omega), if_pos (by omega)]
    · rw [if_pos (by omega)]
end Go.Proofs.Ytnmfnekfobbabaa.AM
