
/- The document's put, on a row of the caller's own. No condition but lengths that fit. -/
import Derived.Test.YtnmfnekfobbabaaF12
set_option linter.unusedVariables false
set_option linter.unusedSimpArgs false
set_option maxRecDepth 20000
namespace Go.Proofs.Ytnmfnekfobbabaa.AM
open Go Go.RowKit

theorem shr_fits (x : Nat) (hx : x < 18446744073709551616) {w : Int} (h0 : 0 ≤ w) (h1 : w < 64) : ((x : Int).fdiv (2 ^ min w.toNat 64) > 0) ↔ ¬ x < 2 ^ w.toNat := by
  rw [shrN x h0 h1]
  have hp := Nat.two_pow_pos w.toNat
  constructor
  · intro h hc
    rw [Nat.div_eq_of_lt hc] at h; simp at h
  · intro h
    have := Nat.div_pos (show 2 ^ w.toNat ≤ x by omega) hp
    omega
theorem bit_dec (x j : Nat) : decide (((x / 2 ^ j : Nat) : Int) % 2 = 1) = (x / 2 ^ j % 2 == 1) := by
  generalize x / 2 ^ j = t
  have h : t % 2 < 2 := Nat.mod_lt _ (by decide)
  by_cases h1 : t % 2 = 1
  · rw [h1]; rw [decide_eq_true (by omega)]; rfl
  · rw [decide_eq_false (by omega), show t % 2 = 0 from by omega]; rfl
theorem half_step (x j : Nat) : ((x / 2 ^ j : Nat) : Int) / 2 = ((x / 2 ^ (j + 1) : Nat) : Int) := by
  rw [Nat.pow_succ, ← Nat.div_div_eq_div_mul]; omega

theorem bit_decT (x j : Nat) : decide (((x / 2 ^ j : Nat) : Int).tmod 2 = 1) = (x / 2 ^ j % 2 == 1) := by
  rw [Int.tmod_eq_emod_of_nonneg (Int.natCast_nonneg _), bit_dec]
theorem half_stepT (x j : Nat) (hx : x < 18446744073709551616) : IntKind.u64.wrap (((x / 2 ^ j : Nat) : Int).tdiv 2) = ((x / 2 ^ (j + 1) : Nat) : Int) := by
  rw [Int.tdiv_eq_ediv_of_nonneg (Int.natCast_nonneg _), half_step]
  have := Nat.div_le_self x (2 ^ (j + 1))
  exact wrapU ⟨Int.natCast_nonneg _, by omega⟩

def rowM (l : List Bool) : MO := .row true 4 1 (l.map .bool)
attribute [go_sem] rowM
theorem RefPut_bad (l : List Bool) (x : Nat) (w : Int) (hx : x < 18446744073709551616) (hl : l.length ≤ 100000000000) (hf : fitsB x w = false) : MCalls Try.prog 37 [.msl 0 0 l.length l.length, .iv (.int .u64 (x : Int)), .iv (.int .i64 w)] [rowM l] (.tup [.msl 0 0 l.length l.length, .iv (.int .i64 1)]) [rowM l] := by
  unfold fitsB at hf
  rw [decide_eq_false_iff_not] at hf
  refine MCalls.of_aw Try.func37 rfl (by unfold Callable; kernel_rfl) (by kernel_rfl) (by simp [Try.ntmps37]) (by (simp (maxSteps := 1000000) (disch := first | omega | (simp only [List.length_append, List.length_cons, List.length_nil, List.length_map, bitsOf_len, readB_len, Int.natCast_add, Int.natCast_succ, Nat.zero_add, natCast_one, natCast_zero] <;> omega) | fail) only [go_sem])) ?_; rw [Try.ntmps37, Try.results37]; (simp (maxSteps := 1000000) (disch := first | omega | (simp only [List.length_append, List.length_cons, List.length_nil, List.length_map, bitsOf_len, readB_len, Int.natCast_add, Int.natCast_succ, Nat.zero_add, natCast_one, natCast_zero] <;> omega) | fail) only [go_sem])
  (repeat' (first
    | ((first | with_reducible refine aw_seq ?_ | with_reducible refine aw_region (aops_run ?_) | (with_reducible refine aw_regionD (fun _ => .p) mixed ?_ (dops_run ?_); (· kernel_rfl)) | (with_reducible refine aw_regionD (fun _ => .r) mixed ?_ (dops_run ?_); (· kernel_rfl)) | with_reducible refine aw_condK ?_ | with_reducible refine aw_skip ?_ | with_reducible refine aw_ret ?_ | with_reducible refine aw_exit ?_ | with_reducible refine aw_label ?_ | with_reducible refine aw_block ?_ | with_reducible refine aw_scope ?_ | with_reducible refine And.intro ?_ ?_) <;> (try (simp (maxSteps := 1000000) (disch := first | omega | (simp only [List.length_append, List.length_cons, List.length_nil, List.length_map, bitsOf_len, readB_len, Int.natCast_add, Int.natCast_succ, Nat.zero_add, natCast_one, natCast_zero] <;> omega) | fail) only [go_sem])))
    | ((first | with_reducible refine wantK_split (fun h => ?_) (fun h => ?_) | with_reducible refine condK_split (fun h => ?_) (fun h => ?_) | with_reducible refine pickV_split (fun h => ?_) (fun h => ?_)) <;> (try (simp (maxSteps := 1000000) (disch := first | omega | (simp only [List.length_append, List.length_cons, List.length_nil, List.length_map, bitsOf_len, readB_len, Int.natCast_add, Int.natCast_succ, Nat.zero_add, natCast_one, natCast_zero] <;> omega) | fail) only [go_sem] at h)) <;> (try (simp (maxSteps := 1000000) (disch := first | omega | (simp only [List.length_append, List.length_cons, List.length_nil, List.length_map, bitsOf_len, readB_len, Int.natCast_add, Int.natCast_succ, Nat.zero_add, natCast_one, natCast_zero] <;> omega) | fail) only [go_sem, h])))))
  all_goals (try omega)
  · refine fin_k [0] ?_
    (simp (maxSteps := 1000000) (disch := first | omega | (simp only [List.length_append, List.length_cons, List.length_nil, List.length_map, bitsOf_len, readB_len, Int.natCast_add, Int.natCast_succ, Nat.zero_add, natCast_one, natCast_zero] <;> omega) | fail) only [go_sem])
  · exfalso
    have h5 : x < 2 ^ w.toNat := by
      by_cases hc : x < 2 ^ w.toNat
      · exact hc
      · exact absurd ((shr_fits x hx (by omega) (by omega)).2 hc) h
    exact hf ⟨by omega, by omega, h5⟩
  · exfalso
    refine hf ⟨by omega, by omega, ?_⟩
    rw [show w.toNat = 64 from by omega]; exact hx
  · refine fin_k [0] ?_
    (simp (maxSteps := 1000000) (disch := first | omega | (simp only [List.length_append, List.length_cons, List.length_nil, List.length_map, bitsOf_len, readB_len, Int.natCast_add, Int.natCast_succ, Nat.zero_add, natCast_one, natCast_zero] <;> omega) | fail) only [go_sem])
  · refine fin_k [0] ?_
    (simp (maxSteps := 1000000) (disch := first | omega | (simp only [List.length_append, List.length_cons, List.length_nil, List.length_map, bitsOf_len, readB_len, Int.natCast_add, Int.natCast_succ, Nat.zero_add, natCast_one, natCast_zero] <;> omega) | fail) only [go_sem])
theorem RefPut_ok (l : List Bool) (x : Nat) (w : Int) (hx : x < 18446744073709551616) (hl : l.length ≤ 100000000000) (hf : fitsB x w = true) : MCalls Try.prog 37 [.msl 0 0 l.length l.length, .iv (.int .u64 (x : Int)), .iv (.int .i64 w)] [rowM l] (.tup [.msl 1 0 (l.length + w.toNat) (l.length + w.toNat), .iv (.int .i64 0)]) [rowM l, rowM (l ++ bitsOf x w.toNat)] := by
  unfold fitsB at hf
  rw [decide_eq_true_eq] at hf
  obtain ⟨hw0, hw1, hnw⟩ := hf
  refine MCalls.of_aw Try.func37 rfl (by unfold Callable; kernel_rfl) (by kernel_rfl) (by simp [Try.ntmps37]) (by (simp (maxSteps := 1000000) (disch := first | omega | (simp only [List.length_append, List.length_cons, List.length_nil, List.length_map, bitsOf_len, readB_len, Int.natCast_add, Int.natCast_succ, Nat.zero_add, natCast_one, natCast_zero] <;> omega) | fail) only [go_sem])) ?_; rw [Try.ntmps37, Try.results37]; (simp (maxSteps := 1000000) (disch := first | omega | (simp only [List.length_append, List.length_cons, List.length_nil, List.length_map, bitsOf_len, readB_len, Int.natCast_add, Int.natCast_succ, Nat.zero_add, natCast_one, natCast_zero] <;> omega) | fail) only [go_sem])
  (repeat' (first
    | ((first | with_reducible refine aw_seq ?_ | with_reducible refine aw_region (aops_run ?_) | (with_reducible refine aw_regionD (fun _ => .p) mixed ?_ (dops_run ?_); (· kernel_rfl)) | (with_reducible refine aw_regionD (fun _ => .r) mixed ?_ (dops_run ?_); (· kernel_rfl)) | with_reducible refine aw_condK ?_ | with_reducible refine aw_skip ?_ | with_reducible refine aw_ret ?_ | with_reducible refine aw_exit ?_ | with_reducible refine aw_label ?_ | with_reducible refine aw_block ?_ | with_reducible refine aw_scope ?_ | with_reducible refine And.intro ?_ ?_) <;> (try (simp (maxSteps := 1000000) (disch := first | omega | (simp only [List.length_append, List.length_cons, List.length_nil, List.length_map, bitsOf_len, readB_len, Int.natCast_add, Int.natCast_succ, Nat.zero_add, natCast_one, natCast_zero] <;> omega) | fail) only [go_sem])))
    | ((first | with_reducible refine wantK_split (fun h => ?_) (fun h => ?_) | with_reducible refine condK_split (fun h => ?_) (fun h => ?_) | with_reducible refine pickV_split (fun h => ?_) (fun h => ?_)) <;> (try (simp (maxSteps := 1000000) (disch := first | omega | (simp only [List.length_append, List.length_cons, List.length_nil, List.length_map, bitsOf_len, readB_len, Int.natCast_add, Int.natCast_succ, Nat.zero_add, natCast_one, natCast_zero] <;> omega) | fail) only [go_sem] at h)) <;> (try (simp (maxSteps := 1000000) (disch := first | omega | (simp only [List.length_append, List.length_cons, List.length_nil, List.length_map, bitsOf_len, readB_len, Int.natCast_add, Int.natCast_succ, Nat.zero_add, natCast_one, natCast_zero] <;> omega) | fail) only [go_sem, h])))))
  all_goals (try omega)
  · exact absurd hnw ((shr_fits x hx (by omega) (by omega)).1 h)
  all_goals
    refine aw_loop (α := Nat) (fun j => ⟨45, sl [(0, .msl 0 0 l.length l.length), (1, .iv (.int .u64 ((x / 2 ^ j : Nat) : Int))), (2, .iv (.int .i64 w)), (8, .msl 2 0 (l.length + j) (l.length + j)), (9, .iv (.int .i64 j))], [rowM l, rowM [], rowM (l ++ bitsOf x j)], 1⟩)
      (fun j => (j : Int) ≤ w) (fun j => w.toNat - j) 0 (wk_by [0, 1, 2] ?_) (by omega) ?_
    · (simp (maxSteps := 1000000) (disch := first | omega | (simp only [List.length_append, List.length_cons, List.length_nil, List.length_map, bitsOf_len, readB_len, Int.natCast_add, Int.natCast_succ, Nat.zero_add, natCast_one, natCast_zero] <;> omega) | fail) only [go_sem])
      simp [bitsOf]
    rintro j hj
    (repeat' (first
    | ((first | with_reducible refine aw_seq ?_ | with_reducible refine aw_region (aops_run ?_) | (with_reducible refine aw_regionD (fun _ => .p) mixed ?_ (dops_run ?_); (· kernel_rfl)) | (with_reducible refine aw_regionD (fun _ => .r) mixed ?_ (dops_run ?_); (· kernel_rfl)) | with_reducible refine aw_condK ?_ | with_reducible refine aw_skip ?_ | with_reducible refine aw_ret ?_ | with_reducible refine aw_exit ?_ | with_reducible refine aw_label ?_ | with_reducible refine aw_block ?_ | with_reducible refine aw_scope ?_ | with_reducible refine And.intro ?_ ?_) <;> (try (simp (maxSteps := 1000000) (disch := first | omega | (simp only [List.length_append, List.length_cons, List.length_nil, List.length_map, bitsOf_len, readB_len, Int.natCast_add, Int.natCast_succ, Nat.zero_add, natCast_one, natCast_zero] <;> omega) | fail) only [go_sem, bit_decT, half_stepT x _ hx])))
    | ((first | with_reducible refine wantK_split (fun h => ?_) (fun h => ?_) | with_reducible refine condK_split (fun h => ?_) (fun h => ?_) | with_reducible refine pickV_split (fun h => ?_) (fun h => ?_)) <;> (try (simp (maxSteps := 1000000) (disch := first | omega | (simp only [List.length_append, List.length_cons, List.length_nil, List.length_map, bitsOf_len, readB_len, Int.natCast_add, Int.natCast_succ, Nat.zero_add, natCast_one, natCast_zero] <;> omega) | fail) only [go_sem] at h)) <;> (try (simp (maxSteps := 1000000) (disch := first | omega | (simp only [List.length_append, List.length_cons, List.length_nil, List.length_map, bitsOf_len, readB_len, Int.natCast_add, Int.natCast_succ, Nat.zero_add, natCast_one, natCast_zero] <;> omega) | fail) only [go_sem, h, bit_decT, half_stepT x _ hx])))))
    all_goals (try omega)
    · refine ⟨j + 1, by omega, wk_by [0, 1, 2] ?_, by omega⟩
      (simp (maxSteps := 1000000) (disch := first | omega | (simp only [List.length_append, List.length_cons, List.length_nil, List.length_map, bitsOf_len, readB_len, Int.natCast_add, Int.natCast_succ, Nat.zero_add, natCast_one, natCast_zero] <;> omega) | fail) only [go_sem, bitsOf_succ, List.map_append, Nat.add_assoc])
    · have e : w.toNat = j := by omega
      rw [e]
      refine fin_k [0, 2] ?_
      (simp (maxSteps := 1000000) (disch := first | omega | (simp only [List.length_append, List.length_cons, List.length_nil, List.length_map, bitsOf_len, readB_len, Int.natCast_add, Int.natCast_succ, Nat.zero_add, natCast_one, natCast_zero] <;> omega) | fail) only [go_sem])

/-- The same, of a frozen row. -/
theorem RefPutP_spec (l : List Bool) (x : Nat) (w : Int) (hx : x < 18446744073709551616) (hl : l.length ≤ 100000000000) (hf : fitsB x w = true) : PCalls Try.prog 37 [blsV l, .int .u64 (x : Int), .int .i64 w] (.tup [blsV (l ++ bitsOf x w.toNat), .int .i64 0]) := by
  unfold fitsB at hf
  rw [decide_eq_true_eq] at hf
  obtain ⟨hw0, hw1, hnw⟩ := hf
  refine PCalls.of_aw Try.func37 rfl (by unfold Callable; kernel_rfl) (by kernel_rfl) (by simp [Try.ntmps37]) ?_; rw [Try.ntmps37, Try.results37]; (simp (maxSteps := 1000000) (disch := first | omega | (simp only [List.length_append, List.length_cons, List.length_nil, List.length_map, bitsOf_len, readB_len, Int.natCast_add, Int.natCast_succ, Nat.zero_add, natCast_one, natCast_zero] <;> omega) | fail) only [go_sem])
  (repeat' (first
    | ((first | with_reducible refine aw_seq ?_ | with_reducible refine aw_region (aops_run ?_) | (with_reducible refine aw_regionD (fun _ => .p) mixed ?_ (dops_run ?_); (· kernel_rfl)) | (with_reducible refine aw_regionD (fun _ => .r) mixed ?_ (dops_run ?_); (· kernel_rfl)) | with_reducible refine aw_condK ?_ | with_reducible refine aw_skip ?_ | with_reducible refine aw_ret ?_ | with_reducible refine aw_exit ?_ | with_reducible refine aw_label ?_ | with_reducible refine aw_block ?_ | with_reducible refine aw_scope ?_ | with_reducible refine And.intro ?_ ?_) <;> (try (simp (maxSteps := 1000000) (disch := first | omega | (simp only [List.length_append, List.length_cons, List.length_nil, List.length_map, bitsOf_len, readB_len, Int.natCast_add, Int.natCast_succ, Nat.zero_add, natCast_one, natCast_zero] <;> omega) | fail) only [go_sem])))
    | ((first | with_reducible refine wantK_split (fun h => ?_) (fun h => ?_) | with_reducible refine condK_split (fun h => ?_) (fun h => ?_) | with_reducible refine pickV_split (fun h => ?_) (fun h => ?_)) <;> (try (simp (maxSteps := 1000000) (disch := first | omega | (simp only [List.length_append, List.length_cons, List.length_nil, List.length_map, bitsOf_len, readB_len, Int.natCast_add, Int.natCast_succ, Nat.zero_add, natCast_one, natCast_zero] <;> omega) | fail) only [go_sem] at h)) <;> (try (simp (maxSteps := 1000000) (disch := first | omega | (simp only [List.length_append, List.length_cons, List.length_nil, List.length_map, bitsOf_len, readB_len, Int.natCast_add, Int.natCast_succ, Nat.zero_add, natCast_one, natCast_zero] <;> omega) | fail) only [go_sem, h])))))
  all_goals (try omega)
  · exact absurd hnw ((shr_fits x hx (by omega) (by omega)).1 h)
  all_goals
    refine aw_loop (α := Nat) (fun j => ⟨45, sl [(1, .iv (.int .u64 ((x / 2 ^ j : Nat) : Int))), (2, .iv (.int .i64 w)), (8, .msl 1 0 (l.length + j) (l.length + j)), (9, .iv (.int .i64 j))], [rowM [], rowM (l ++ bitsOf x j)], 0⟩)
      (fun j => (j : Int) ≤ w) (fun j => w.toNat - j) 0 (wk_by [0, 1] ?_) (by omega) ?_
    · (simp (maxSteps := 1000000) (disch := first | omega | (simp only [List.length_append, List.length_cons, List.length_nil, List.length_map, bitsOf_len, readB_len, Int.natCast_add, Int.natCast_succ, Nat.zero_add, natCast_one, natCast_zero] <;> omega) | fail) only [go_sem])
      simp [bitsOf]
    rintro j hj
    (repeat' (first
    | ((first | with_reducible refine aw_seq ?_ | with_reducible refine aw_region (aops_run ?_) | (with_reducible refine aw_regionD (fun _ => .p) mixed ?_ (dops_run ?_); (· kernel_rfl)) | (with_reducible refine aw_regionD (fun _ => .r) mixed ?_ (dops_run ?_); (· kernel_rfl)) | with_reducible refine aw_condK ?_ | with_reducible refine aw_skip ?_ | with_reducible refine aw_ret ?_ | with_reducible refine aw_exit ?_ | with_reducible refine aw_label ?_ | with_reducible refine aw_block ?_ | with_reducible refine aw_scope ?_ | with_reducible refine And.intro ?_ ?_) <;> (try (simp (maxSteps := 1000000) (disch := first | omega | (simp only [List.length_append, List.length_cons, List.length_nil, List.length_map, bitsOf_len, readB_len, Int.natCast_add, Int.natCast_succ, Nat.zero_add, natCast_one, natCast_zero] <;> omega) | fail) only [go_sem, bit_decT, half_stepT x _ hx])))
    | ((first | with_reducible refine wantK_split (fun h => ?_) (fun h => ?_) | with_reducible refine condK_split (fun h => ?_) (fun h => ?_) | with_reducible refine pickV_split (fun h => ?_) (fun h => ?_)) <;> (try (simp (maxSteps := 1000000) (disch := first | omega | (simp only [List.length_append, List.length_cons, List.length_nil, List.length_map, bitsOf_len, readB_len, Int.natCast_add, Int.natCast_succ, Nat.zero_add, natCast_one, natCast_zero] <;> omega) | fail) only [go_sem] at h)) <;> (try (simp (maxSteps := 1000000) (disch := first | omega | (simp only [List.length_append, List.length_cons, List.length_nil, List.length_map, bitsOf_len, readB_len, Int.natCast_add, Int.natCast_succ, Nat.zero_add, natCast_one, natCast_zero] <;> omega) | fail) only [go_sem, h, bit_decT, half_stepT x _ hx])))))
    all_goals (try omega)
    · refine ⟨j + 1, by omega, wk_by [0, 1] ?_, by omega⟩
      (simp (maxSteps := 1000000) (disch := first | omega | (simp only [List.length_append, List.length_cons, List.length_nil, List.length_map, bitsOf_len, readB_len, Int.natCast_add, Int.natCast_succ, Nat.zero_add, natCast_one, natCast_zero] <;> omega) | fail) only [go_sem, bitsOf_succ, List.map_append, Nat.add_assoc])
    · have e : w.toNat = j := by omega
      rw [e]
end Go.Proofs.Ytnmfnekfobbabaa.AM
