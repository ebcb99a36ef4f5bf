/- The law IntsWide, as a call. No condition. -/
import Derived.Test.YtaenpfgljlahkaaG4
set_option linter.unusedVariables false
set_option linter.unusedSimpArgs false
set_option maxRecDepth 20000
namespace Go.Proofs.Ytaenpfgljlahkaa.AM
open Go Go.RowKit

theorem tmod63 (w : Int) : -62 ≤ w.tmod 63 ∧ w.tmod 63 ≤ 62 := by
  have h1 := Int.tmod_lt_of_pos w (show (0 : Int) < 63 by omega)
  have h2 := Int.lt_tmod_of_pos w (show (0 : Int) < 63 by omega)
  omega
theorem bitLen_pow (k : Nat) (h : k < 63) : Lib.bitLen (2 ^ k) = k + 1 := by
  have h1 : (2 : Nat) ^ k < 2 ^ 63 := Nat.pow_lt_pow_right (by decide) h
  have hx : (2 : Nat) ^ k < 18446744073709551616 := by omega
  have a := (bitLen_fits (2 ^ k) hx (w := k + 1) (by omega)).2 (Nat.pow_lt_pow_right (by decide) (by omega))
  have b := fun hh => (bitLen_fits (2 ^ k) hx (w := k) (by omega)).1 hh
  omega
theorem bitLen_pred (k : Nat) (h : k < 63) : Lib.bitLen (2 ^ k - 1) = k := by
  have h1 : (2 : Nat) ^ k < 2 ^ 63 := Nat.pow_lt_pow_right (by decide) h
  have h0 := Nat.two_pow_pos k
  have hx : (2 : Nat) ^ k - 1 < 18446744073709551616 := by omega
  have a := (bitLen_fits (2 ^ k - 1) hx (w := k) (by omega)).2 (by omega)
  cases k with
  | zero => omega
  | succ k =>
    have b := fun hh => (bitLen_fits (2 ^ (k + 1) - 1) hx (w := k) (by omega)).1 hh
    have h2 := Nat.two_pow_pos k
    rw [Nat.pow_succ] at *
    omega
theorem wid_top {n : Int} (h0 : 1 ≤ n) (h1 : n ≤ 9223372036854775807) : 1 ≤ widN n ∧ widN n ≤ 63 ∧ n.toNat / 2 ^ (widN n - 1) = 1 := by
  have hle := widN_le h1
  have hx : n.toNat < 18446744073709551616 := by omega
  have hp : 1 ≤ widN n := by
    have := (widN_fits (by omega) h1 (w := 0) (by omega)).1
    omega
  refine ⟨hp, hle, ?_⟩
  have a := (widN_fits (n := n) (by omega) h1 (w := widN n) (by omega)).1 (Nat.le_refl _)
  have b := fun hh => (widN_fits (n := n) (by omega) h1 (w := widN n - 1) (by omega)).2 hh
  have hb : 2 ^ (widN n - 1) ≤ n.toNat := by
    rcases Nat.lt_or_ge n.toNat (2 ^ (widN n - 1)) with hc | hc
    · have := b hc; omega
    · exact hc
  have e : 2 ^ (widN n - 1) * 2 = 2 ^ widN n := by rw [← Nat.pow_succ]; congr 1; omega
  have hpos := Nat.two_pow_pos (widN n - 1)
  rw [Nat.div_eq_iff hpos]; omega

theorem IntsWide_spec (n w0 : Int) (hn : small n) (hw : small w0) : PCalls Try.prog 6 [.int .i64 n, .int .i64 w0] (.bool true) := by
  have hk := tmod63 w0
  refine PCalls.of_aw Try.func6 rfl (by unfold Callable; kernel_rfl) (by kernel_rfl) (by simp [Try.ntmps6]) ?_; rw [Try.ntmps6, Try.results6]; (simp (maxSteps := 1000000) (disch := first | omega | (simp only [List.length_append, List.length_cons, List.length_nil, List.length_map, bitsOf_len, readB_len, Int.natCast_add, Int.natCast_succ, Nat.zero_add, natCast_one, natCast_zero] <;> omega) | fail) only [go_sem])
  (repeat' (first
    | ((first | with_reducible refine aw_seq ?_ | with_reducible refine aw_region (aops_run ?_) | (with_reducible refine aw_regionD (fun _ => .p) mixed ?_ (dops_run ?_); (· kernel_rfl)) | (with_reducible refine aw_regionD (fun _ => .r) mixed ?_ (dops_run ?_); (· kernel_rfl)) | with_reducible refine aw_condK ?_ | with_reducible refine aw_skip ?_ | with_reducible refine aw_ret ?_ | with_reducible refine aw_exit ?_ | with_reducible refine aw_label ?_ | with_reducible refine aw_block ?_ | with_reducible refine aw_scope ?_ | with_reducible refine And.intro ?_ ?_) <;> (try (simp (maxSteps := 1000000) (disch := first | omega | (simp only [List.length_append, List.length_cons, List.length_nil, List.length_map, bitsOf_len, readB_len, Int.natCast_add, Int.natCast_succ, Nat.zero_add, natCast_one, natCast_zero] <;> omega) | fail) only [go_sem])))
    | ((first | with_reducible refine wantK_split (fun h => ?_) (fun h => ?_) | with_reducible refine condK_split (fun h => ?_) (fun h => ?_) | with_reducible refine pickV_split (fun h => ?_) (fun h => ?_)) <;> (try (simp (maxSteps := 1000000) (disch := first | omega | (simp only [List.length_append, List.length_cons, List.length_nil, List.length_map, bitsOf_len, readB_len, Int.natCast_add, Int.natCast_succ, Nat.zero_add, natCast_one, natCast_zero] <;> omega) | fail) only [go_sem] at h)) <;> (try (simp (maxSteps := 1000000) (disch := first | omega | (simp only [List.length_append, List.length_cons, List.length_nil, List.length_map, bitsOf_len, readB_len, Int.natCast_add, Int.natCast_succ, Nat.zero_add, natCast_one, natCast_zero] <;> omega) | fail) only [go_sem, h])))))
  ((first | with_reducible apply left_callf | with_reducible apply leftD_callf); (· with_reducible rfl); (· (simp (maxSteps := 1000000) (disch := first | omega | (simp only [List.length_append, List.length_cons, List.length_nil, List.length_map, bitsOf_len, readB_len, Int.natCast_add, Int.natCast_succ, Nat.zero_add, natCast_one, natCast_zero] <;> omega) | fail) only [go_sem]) <;> rfl); (· exact awake2_spec); try (simp (maxSteps := 1000000) (disch := first | omega | (simp only [List.length_append, List.length_cons, List.length_nil, List.length_map, bitsOf_len, readB_len, Int.natCast_add, Int.natCast_succ, Nat.zero_add, natCast_one, natCast_zero] <;> omega) | fail) only [go_sem]))
  ((with_reducible refine aw_seq ?_); (with_reducible refine aw_region (aops_run ?_)); try (simp (maxSteps := 1000000) (disch := first | omega | (simp only [List.length_append, List.length_cons, List.length_nil, List.length_map, bitsOf_len, readB_len, Int.natCast_add, Int.natCast_succ, Nat.zero_add, natCast_one, natCast_zero] <;> omega) | fail) only [go_sem]))
  refine aw_cut ⟨59, sl [(0, .iv (.int .i64 n)), (5, .iv (.bool true)), (6, .iv (.int .i64 (((w0.tmod 63).natAbs : Nat) : Int)))], [], 0⟩ ?_ ?_
  · (repeat' (first
    | ((first | with_reducible refine aw_seq ?_ | with_reducible refine aw_region (aops_run ?_) | (with_reducible refine aw_regionD (fun _ => .p) mixed ?_ (dops_run ?_); (· kernel_rfl)) | (with_reducible refine aw_regionD (fun _ => .r) mixed ?_ (dops_run ?_); (· kernel_rfl)) | with_reducible refine aw_condK ?_ | with_reducible refine aw_skip ?_ | with_reducible refine aw_ret ?_ | with_reducible refine aw_exit ?_ | with_reducible refine aw_label ?_ | with_reducible refine aw_block ?_ | with_reducible refine aw_scope ?_ | with_reducible refine And.intro ?_ ?_) <;> (try (simp (maxSteps := 1000000) (disch := first | omega | (simp only [List.length_append, List.length_cons, List.length_nil, List.length_map, bitsOf_len, readB_len, Int.natCast_add, Int.natCast_succ, Nat.zero_add, natCast_one, natCast_zero] <;> omega) | fail) only [go_sem])))
    | ((first | with_reducible refine wantK_split (fun h => ?_) (fun h => ?_) | with_reducible refine condK_split (fun h => ?_) (fun h => ?_) | with_reducible refine pickV_split (fun h => ?_) (fun h => ?_)) <;> (try (simp (maxSteps := 1000000) (disch := first | omega | (simp only [List.length_append, List.length_cons, List.length_nil, List.length_map, bitsOf_len, readB_len, Int.natCast_add, Int.natCast_succ, Nat.zero_add, natCast_one, natCast_zero] <;> omega) | fail) only [go_sem] at h)) <;> (try (simp (maxSteps := 1000000) (disch := first | omega | (simp only [List.length_append, List.length_cons, List.length_nil, List.length_map, bitsOf_len, readB_len, Int.natCast_add, Int.natCast_succ, Nat.zero_add, natCast_one, natCast_zero] <;> omega) | fail) only [go_sem, h])))))
    all_goals (try omega)
    all_goals (refine wk_by [] ?_; (simp (maxSteps := 1000000) (disch := first | omega | (simp only [List.length_append, List.length_cons, List.length_nil, List.length_map, bitsOf_len, readB_len, Int.natCast_add, Int.natCast_succ, Nat.zero_add, natCast_one, natCast_zero] <;> omega) | fail) only [go_sem]))
    · congr 2; omega
    · congr 2; omega
  obtain ⟨k, hke, hk62⟩ : ∃ k : Nat, (w0.tmod 63).natAbs = k ∧ k ≤ 62 := ⟨_, rfl, by omega⟩
  rw [hke]
  clear hke hk
  have hp : (2 : Nat) ^ k ≤ 2 ^ 62 := Nat.pow_le_pow_right (by decide) hk62
  have hp0 := Nat.two_pow_pos k
  by_cases hn1 : n < 1
  · have e := widN_zero (n := n) (by omega)
    (repeat' (first
    | ((first | with_reducible refine aw_seq ?_ | with_reducible refine aw_region (aops_run ?_) | (with_reducible refine aw_regionD (fun _ => .p) mixed ?_ (dops_run ?_); (· kernel_rfl)) | (with_reducible refine aw_regionD (fun _ => .r) mixed ?_ (dops_run ?_); (· kernel_rfl)) | with_reducible refine aw_condK ?_ | with_reducible refine aw_skip ?_ | with_reducible refine aw_ret ?_ | with_reducible refine aw_exit ?_ | with_reducible refine aw_label ?_ | with_reducible refine aw_block ?_ | with_reducible refine aw_scope ?_ | with_reducible refine And.intro ?_ ?_) <;> (try (simp (maxSteps := 1000000) (disch := first | omega | (simp only [List.length_append, List.length_cons, List.length_nil, List.length_map, bitsOf_len, readB_len, Int.natCast_add, Int.natCast_succ, Nat.zero_add, natCast_one, natCast_zero] <;> omega) | fail) only [go_sem])))
    | ((first | with_reducible refine wantK_split (fun h => ?_) (fun h => ?_) | with_reducible refine condK_split (fun h => ?_) (fun h => ?_) | with_reducible refine pickV_split (fun h => ?_) (fun h => ?_)) <;> (try (simp (maxSteps := 1000000) (disch := first | omega | (simp only [List.length_append, List.length_cons, List.length_nil, List.length_map, bitsOf_len, readB_len, Int.natCast_add, Int.natCast_succ, Nat.zero_add, natCast_one, natCast_zero] <;> omega) | fail) only [go_sem] at h)) <;> (try (simp (maxSteps := 1000000) (disch := first | omega | (simp only [List.length_append, List.length_cons, List.length_nil, List.length_map, bitsOf_len, readB_len, Int.natCast_add, Int.natCast_succ, Nat.zero_add, natCast_one, natCast_zero] <;> omega) | fail) only [go_sem, h])))))
    ((first | with_reducible apply left_callf | with_reducible apply leftD_callf); (· with_reducible rfl); (· (simp (maxSteps := 1000000) (disch := first | omega | (simp only [List.length_append, List.length_cons, List.length_nil, List.length_map, bitsOf_len, readB_len, Int.natCast_add, Int.natCast_succ, Nat.zero_add, natCast_one, natCast_zero] <;> omega) | fail) only [go_sem]) <;> rfl); (· exact IWidth_spec n hn); try (simp (maxSteps := 1000000) (disch := first | omega | (simp only [List.length_append, List.length_cons, List.length_nil, List.length_map, bitsOf_len, readB_len, Int.natCast_add, Int.natCast_succ, Nat.zero_add, natCast_one, natCast_zero] <;> omega) | fail) only [go_sem]))
    (repeat' (first
    | ((first | with_reducible refine aw_seq ?_ | with_reducible refine aw_region (aops_run ?_) | (with_reducible refine aw_regionD (fun _ => .p) mixed ?_ (dops_run ?_); (· kernel_rfl)) | (with_reducible refine aw_regionD (fun _ => .r) mixed ?_ (dops_run ?_); (· kernel_rfl)) | with_reducible refine aw_condK ?_ | with_reducible refine aw_skip ?_ | with_reducible refine aw_ret ?_ | with_reducible refine aw_exit ?_ | with_reducible refine aw_label ?_ | with_reducible refine aw_block ?_ | with_reducible refine aw_scope ?_ | with_reducible refine And.intro ?_ ?_) <;> (try (simp (maxSteps := 1000000) (disch := first | omega | (simp only [List.length_append, List.length_cons, List.length_nil, List.length_map, bitsOf_len, readB_len, Int.natCast_add, Int.natCast_succ, Nat.zero_add, natCast_one, natCast_zero] <;> omega) | fail) only [go_sem])))
    | ((first | with_reducible refine wantK_split (fun h => ?_) (fun h => ?_) | with_reducible refine condK_split (fun h => ?_) (fun h => ?_) | with_reducible refine pickV_split (fun h => ?_) (fun h => ?_)) <;> (try (simp (maxSteps := 1000000) (disch := first | omega | (simp only [List.length_append, List.length_cons, List.length_nil, List.length_map, bitsOf_len, readB_len, Int.natCast_add, Int.natCast_succ, Nat.zero_add, natCast_one, natCast_zero] <;> omega) | fail) only [go_sem] at h)) <;> (try (simp (maxSteps := 1000000) (disch := first | omega | (simp only [List.length_append, List.length_cons, List.length_nil, List.length_map, bitsOf_len, readB_len, Int.natCast_add, Int.natCast_succ, Nat.zero_add, natCast_one, natCast_zero] <;> omega) | fail) only [go_sem, h])))))
    all_goals (try omega)
    rw [e]; rfl
  · obtain ⟨h1, h2, h3⟩ := wid_top (n := n) (by omega) hn.2
    have q1 : (0 < (widN n : Int)) = True := eq_true (by omega)
    have q2 : ((widN n : Int) ≤ 63) = True := eq_true (by omega)
    have q3 : n.fdiv (2 ^ min ((widN n : Int) - 1).toNat 64) = 1 := by
      obtain ⟨m, rfl⟩ : ∃ m : Nat, n = (m : Int) := ⟨n.toNat, by omega⟩
      rw [Int.toNat_natCast] at h3
      rw [show ((widN (m : Int) : Int) - 1).toNat = widN (m : Int) - 1 from by omega, shrK m _ (by omega), h3]; rfl
    have q4 : IntKind.i64.wrap (1 * 2 ^ min k 64) = ((2 ^ k : Nat) : Int) := by
      rw [Nat.min_eq_left (by omega), Int.one_mul, show (2 : Int) ^ k = ((2 ^ k : Nat) : Int) from by simp]
      exact wrapS ⟨by omega, by omega⟩
    have hA := IWidth_spec ((2 ^ k : Nat) : Int) ⟨by omega, by omega⟩
    rw [show widN ((2 ^ k : Nat) : Int) = k + 1 from by unfold widN; rw [Int.toNat_natCast, bitLen_pow k (by omega)]] at hA
    have hB := IWidth_spec (((2 ^ k : Nat) : Int) - 1) ⟨by omega, by omega⟩
    rw [show widN (((2 ^ k : Nat) : Int) - 1) = k from by unfold widN; rw [show (((2 ^ k : Nat) : Int) - 1).toNat = 2 ^ k - 1 from by omega, bitLen_pred k (by omega)]] at hB
    generalize 2 ^ k = K at *
    (repeat' (first
    | ((first | with_reducible refine aw_seq ?_ | with_reducible refine aw_region (aops_run ?_) | (with_reducible refine aw_regionD (fun _ => .p) mixed ?_ (dops_run ?_); (· kernel_rfl)) | (with_reducible refine aw_regionD (fun _ => .r) mixed ?_ (dops_run ?_); (· kernel_rfl)) | with_reducible refine aw_condK ?_ | with_reducible refine aw_skip ?_ | with_reducible refine aw_ret ?_ | with_reducible refine aw_exit ?_ | with_reducible refine aw_label ?_ | with_reducible refine aw_block ?_ | with_reducible refine aw_scope ?_ | with_reducible refine And.intro ?_ ?_) <;> (try (simp (maxSteps := 1000000) (disch := first | omega | (simp only [List.length_append, List.length_cons, List.length_nil, List.length_map, bitsOf_len, readB_len, Int.natCast_add, Int.natCast_succ, Nat.zero_add, natCast_one, natCast_zero] <;> omega) | fail) only [go_sem])))
    | ((first | with_reducible refine wantK_split (fun h => ?_) (fun h => ?_) | with_reducible refine condK_split (fun h => ?_) (fun h => ?_) | with_reducible refine pickV_split (fun h => ?_) (fun h => ?_)) <;> (try (simp (maxSteps := 1000000) (disch := first | omega | (simp only [List.length_append, List.length_cons, List.length_nil, List.length_map, bitsOf_len, readB_len, Int.natCast_add, Int.natCast_succ, Nat.zero_add, natCast_one, natCast_zero] <;> omega) | fail) only [go_sem] at h)) <;> (try (simp (maxSteps := 1000000) (disch := first | omega | (simp only [List.length_append, List.length_cons, List.length_nil, List.length_map, bitsOf_len, readB_len, Int.natCast_add, Int.natCast_succ, Nat.zero_add, natCast_one, natCast_zero] <;> omega) | fail) only [go_sem, h])))))
    ((first | with_reducible apply left_callf | with_reducible apply leftD_callf); (· with_reducible rfl); (· (simp (maxSteps := 1000000) (disch := first | omega | (simp only [List.length_append, List.length_cons, List.length_nil, List.length_map, bitsOf_len, readB_len, Int.natCast_add, Int.natCast_succ, Nat.zero_add, natCast_one, natCast_zero] <;> omega) | fail) only [go_sem]) <;> rfl); (· exact IWidth_spec n hn); try (simp (maxSteps := 1000000) (disch := first | omega | (simp only [List.length_append, List.length_cons, List.length_nil, List.length_map, bitsOf_len, readB_len, Int.natCast_add, Int.natCast_succ, Nat.zero_add, natCast_one, natCast_zero] <;> omega) | fail) only [go_sem]))
    (repeat' (first
    | ((first | with_reducible refine aw_seq ?_ | with_reducible refine aw_region (aops_run ?_) | (with_reducible refine aw_regionD (fun _ => .p) mixed ?_ (dops_run ?_); (· kernel_rfl)) | (with_reducible refine aw_regionD (fun _ => .r) mixed ?_ (dops_run ?_); (· kernel_rfl)) | with_reducible refine aw_condK ?_ | with_reducible refine aw_skip ?_ | with_reducible refine aw_ret ?_ | with_reducible refine aw_exit ?_ | with_reducible refine aw_label ?_ | with_reducible refine aw_block ?_ | with_reducible refine aw_scope ?_ | with_reducible refine And.intro ?_ ?_) <;> (try (simp (maxSteps := 1000000) (disch := first | omega | (simp only [List.length_append, List.length_cons, List.length_nil, List.length_map, bitsOf_len, readB_len, Int.natCast_add, Int.natCast_succ, Nat.zero_add, natCast_one, natCast_zero] <;> omega) | fail) only [go_sem, q1, q2, q3, q4])))
    | ((first | with_reducible refine wantK_split (fun h => ?_) (fun h => ?_) | with_reducible refine condK_split (fun h => ?_) (fun h => ?_) | with_reducible refine pickV_split (fun h => ?_) (fun h => ?_)) <;> (try (simp (maxSteps := 1000000) (disch := first | omega | (simp only [List.length_append, List.length_cons, List.length_nil, List.length_map, bitsOf_len, readB_len, Int.natCast_add, Int.natCast_succ, Nat.zero_add, natCast_one, natCast_zero] <;> omega) | fail) only [go_sem] at h)) <;> (try (simp (maxSteps := 1000000) (disch := first | omega | (simp only [List.length_append, List.length_cons, List.length_nil, List.length_map, bitsOf_len, readB_len, Int.natCast_add, Int.natCast_succ, Nat.zero_add, natCast_one, natCast_zero] <;> omega) | fail) only [go_sem, h, q1, q2, q3, q4])))))
    all_goals (try omega)
    ((first | with_reducible apply left_callf | with_reducible apply leftD_callf); (· with_reducible rfl); (· (simp (maxSteps := 1000000) (disch := first | omega | (simp only [List.length_append, List.length_cons, List.length_nil, List.length_map, bitsOf_len, readB_len, Int.natCast_add, Int.natCast_succ, Nat.zero_add, natCast_one, natCast_zero] <;> omega) | fail) only [go_sem]) <;> rfl); (· exact hA); try (simp (maxSteps := 1000000) (disch := first | omega | (simp only [List.length_append, List.length_cons, List.length_nil, List.length_map, bitsOf_len, readB_len, Int.natCast_add, Int.natCast_succ, Nat.zero_add, natCast_one, natCast_zero] <;> omega) | fail) only [go_sem]))
    (repeat' (first
    | ((first | with_reducible refine aw_seq ?_ | with_reducible refine aw_region (aops_run ?_) | (with_reducible refine aw_regionD (fun _ => .p) mixed ?_ (dops_run ?_); (· kernel_rfl)) | (with_reducible refine aw_regionD (fun _ => .r) mixed ?_ (dops_run ?_); (· kernel_rfl)) | with_reducible refine aw_condK ?_ | with_reducible refine aw_skip ?_ | with_reducible refine aw_ret ?_ | with_reducible refine aw_exit ?_ | with_reducible refine aw_label ?_ | with_reducible refine aw_block ?_ | with_reducible refine aw_scope ?_ | with_reducible refine And.intro ?_ ?_) <;> (try (simp (maxSteps := 1000000) (disch := first | omega | (simp only [List.length_append, List.length_cons, List.length_nil, List.length_map, bitsOf_len, readB_len, Int.natCast_add, Int.natCast_succ, Nat.zero_add, natCast_one, natCast_zero] <;> omega) | fail) only [go_sem, q4])))
    | ((first | with_reducible refine wantK_split (fun h => ?_) (fun h => ?_) | with_reducible refine condK_split (fun h => ?_) (fun h => ?_) | with_reducible refine pickV_split (fun h => ?_) (fun h => ?_)) <;> (try (simp (maxSteps := 1000000) (disch := first | omega | (simp only [List.length_append, List.length_cons, List.length_nil, List.length_map, bitsOf_len, readB_len, Int.natCast_add, Int.natCast_succ, Nat.zero_add, natCast_one, natCast_zero] <;> omega) | fail) only [go_sem] at h)) <;> (try (simp (maxSteps := 1000000) (disch := first | omega | (simp only [List.length_append, List.length_cons, List.length_nil, List.length_map, bitsOf_len, readB_len, Int.natCast_add, Int.natCast_succ, Nat.zero_add, natCast_one, natCast_zero] <;> omega) | fail) only [go_sem, h, q4])))))
    all_goals (try omega)
    ((first | with_reducible apply left_callf | with_reducible apply leftD_callf); (· with_reducible rfl); (· (simp (maxSteps := 1000000) (disch := first | omega | (simp only [List.length_append, List.length_cons, List.length_nil, List.length_map, bitsOf_len, readB_len, Int.natCast_add, Int.natCast_succ, Nat.zero_add, natCast_one, natCast_zero] <;> omega) | fail) only [go_sem]) <;> rfl); (· exact hB); try (simp (maxSteps := 1000000) (disch := first | omega | (simp only [List.length_append, List.length_cons, List.length_nil, List.length_map, bitsOf_len, readB_len, Int.natCast_add, Int.natCast_succ, Nat.zero_add, natCast_one, natCast_zero] <;> omega) | fail) only [go_sem]))
    (repeat' (first
    | ((first | with_reducible refine aw_seq ?_ | with_reducible refine aw_region (aops_run ?_) | (with_reducible refine aw_regionD (fun _ => .p) mixed ?_ (dops_run ?_); (· kernel_rfl)) | (with_reducible refine aw_regionD (fun _ => .r) mixed ?_ (dops_run ?_); (· kernel_rfl)) | with_reducible refine aw_condK ?_ | with_reducible refine aw_skip ?_ | with_reducible refine aw_ret ?_ | with_reducible refine aw_exit ?_ | with_reducible refine aw_label ?_ | with_reducible refine aw_block ?_ | with_reducible refine aw_scope ?_ | with_reducible refine And.intro ?_ ?_) <;> (try (simp (maxSteps := 1000000) (disch := first | omega | (simp only [List.length_append, List.length_cons, List.length_nil, List.length_map, bitsOf_len, readB_len, Int.natCast_add, Int.natCast_succ, Nat.zero_add, natCast_one, natCast_zero] <;> omega) | fail) only [go_sem])))
    | ((first | with_reducible refine wantK_split (fun h => ?_) (fun h => ?_) | with_reducible refine condK_split (fun h => ?_) (fun h => ?_) | with_reducible refine pickV_split (fun h => ?_) (fun h => ?_)) <;> (try (simp (maxSteps := 1000000) (disch := first | omega | (simp only [List.length_append, List.length_cons, List.length_nil, List.length_map, bitsOf_len, readB_len, Int.natCast_add, Int.natCast_succ, Nat.zero_add, natCast_one, natCast_zero] <;> omega) | fail) only [go_sem] at h)) <;> (try (simp (maxSteps := 1000000) (disch := first | omega | (simp only [List.length_append, List.length_cons, List.length_nil, List.length_map, bitsOf_len, readB_len, Int.natCast_add, Int.natCast_succ, Nat.zero_add, natCast_one, natCast_zero] <;> omega) | fail) only [go_sem, h])))))
end Go.Proofs.Ytaenpfgljlahkaa.AM
