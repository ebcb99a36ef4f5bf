
/- Rows of bits: a number of some of them; rows read from bytes. No condition but lengths that fit. -/
import Derived.Test.YtnmfnekfobbabaaF4
set_option linter.unusedVariables false
set_option linter.unusedSimpArgs false
set_option maxRecDepth 20000
namespace Go.Proofs.Ytnmfnekfobbabaa.AM
open Go Go.RowKit

/-- What Number tells: its error, its number. -/
def numE (l : List Bool) (a w : Int) : Int := if w < 0 ∨ 64 < w then 1 else if a < 0 ∨ (l.length : Int) < a ∨ (l.length : Int) - a < w then 13 else 0
def numV (l : List Bool) (a w : Int) : Nat := if numE l a w = 0 then numN l a.toNat w.toNat else 0

theorem part_full (l : List Bool) (i : Nat) : ((wordAt l (i / 64) : Nat) : Int).fdiv (2 ^ min (i % 64) 64) = (numN l i (64 - i % 64) : Int) := by
  have := shrN (wordAt l (i / 64)) (r := ((i % 64 : Nat) : Int)) (by omega) (by omega)
  rw [Int.toNat_natCast] at this
  rw [this, word_shr]
theorem part_mask (l : List Bool) (i m : Nat) (hm : m < 64) (h : m ≤ 64 - i % 64) : bitI .and .u64 (numN l i (64 - i % 64) : Int) (IntKind.u64.wrap (IntKind.u64.wrap (1 * 2 ^ min m 64) - 1)) = (numN l i m : Int) := by
  have h1 : numN l i (64 - i % 64) < 18446744073709551616 := Nat.lt_of_lt_of_le (numN_lt _ _ _) (Nat.pow_le_pow_right (n := 2) (by decide) (show 64 - i % 64 ≤ 64 by omega))
  have := mask_word (numN l i (64 - i % 64)) h1 (r := (m : Int)) (by omega) (by omega)
  rw [Int.toNat_natCast] at this
  rw [this, numN_mod l i h]
theorem part_or (l : List Bool) (a g m : Nat) (h : a + g ≤ l.length) (hg : g + m ≤ 64) (hg2 : g < 64) : bitI .or .u64 (numN l a g : Int) (IntKind.u64.wrap ((numN l (a + g) m : Int) * 2 ^ min g 64)) = (numN l a (g + m) : Int) := by
  have h0 := numN_lt l a (g + m)
  have h1 := numN_lt l (a + g) m
  have h2 := numN_lt l a g
  have h64 : (2 : Nat) ^ (g + m) ≤ 18446744073709551616 := Nat.pow_le_pow_right (n := 2) (by decide) hg
  have hadd := numN_add l a g m h
  have h3 : numN l (a + g) m * 2 ^ g < 18446744073709551616 := by rw [Nat.mul_comm]; omega
  have := shlN (numN l (a + g) m) (r := (g : Int)) (by omega) (by omega) (by rw [Int.toNat_natCast]; exact h3)
  rw [Int.toNat_natCast] at this
  rw [this, bitor64 _ _ (by omega) h3, Nat.mul_comm, or_top _ h2, hadd]

theorem Number_ok (l : List Bool) (a w : Nat) (hl : l.length ≤ 100000000000) (hw : w ≤ 64) (ha : a + w ≤ l.length) : PCalls Try.prog 43 [bitsV l, .int .i64 a, .int .i64 w] (.tup [.int .u64 (numN l a w : Int), .int .i64 0]) := by
  refine PCalls.of_aw Try.func43 rfl (by unfold Callable; kernel_rfl) (by kernel_rfl) (by simp [Try.ntmps43]) ?_; rw [Try.ntmps43, Try.results43]; (simp (maxSteps := 1000000) (disch := first | omega | (simp only [List.length_append, List.length_cons, List.length_nil, List.length_map, bitsOf_len, readB_len, Int.natCast_add, Int.natCast_succ, Nat.zero_add, natCast_one, natCast_zero] <;> omega) | fail) only [go_sem])
  (repeat' (first
    | ((first | with_reducible refine aw_seq ?_ | with_reducible refine aw_region (aops_run ?_) | (with_reducible refine aw_regionD (fun _ => .p) mixed ?_ (dops_run ?_); (· kernel_rfl)) | (with_reducible refine aw_regionD (fun _ => .r) mixed ?_ (dops_run ?_); (· kernel_rfl)) | with_reducible refine aw_condK ?_ | with_reducible refine aw_skip ?_ | with_reducible refine aw_ret ?_ | with_reducible refine aw_exit ?_ | with_reducible refine aw_label ?_ | with_reducible refine aw_block ?_ | with_reducible refine aw_scope ?_ | with_reducible refine And.intro ?_ ?_) <;> (try (simp (maxSteps := 1000000) (disch := first | omega | (simp only [List.length_append, List.length_cons, List.length_nil, List.length_map, bitsOf_len, readB_len, Int.natCast_add, Int.natCast_succ, Nat.zero_add, natCast_one, natCast_zero] <;> omega) | fail) only [go_sem])))
    | ((first | with_reducible refine wantK_split (fun h => ?_) (fun h => ?_) | with_reducible refine condK_split (fun h => ?_) (fun h => ?_) | with_reducible refine pickV_split (fun h => ?_) (fun h => ?_)) <;> (try (simp (maxSteps := 1000000) (disch := first | omega | (simp only [List.length_append, List.length_cons, List.length_nil, List.length_map, bitsOf_len, readB_len, Int.natCast_add, Int.natCast_succ, Nat.zero_add, natCast_one, natCast_zero] <;> omega) | fail) only [go_sem] at h)) <;> (try (simp (maxSteps := 1000000) (disch := first | omega | (simp only [List.length_append, List.length_cons, List.length_nil, List.length_map, bitsOf_len, readB_len, Int.natCast_add, Int.natCast_succ, Nat.zero_add, natCast_one, natCast_zero] <;> omega) | fail) only [go_sem, h])))))
  all_goals (try omega)
  refine aw_loop (α := Nat) (fun g => ⟨75, sl [(1, .iv (.int .i64 a)), (2, .iv (.int .i64 w)), (3, .mp 0 0), (8, .iv (.int .u64 (numN l a g : Int))), (9, .iv (.int .i64 g))],
    [.var 27 [.iv (.int .i64 l.length), .iv (.sl 1 (ws l))]], 0⟩)
    (fun g => g ≤ w) (fun g => w - g) 0 (wk_by [0] ?_) (by omega) ?_
  · (simp (maxSteps := 1000000) (disch := first | omega | (simp only [List.length_append, List.length_cons, List.length_nil, List.length_map, bitsOf_len, readB_len, Int.natCast_add, Int.natCast_succ, Nat.zero_add, natCast_one, natCast_zero] <;> omega) | fail) only [go_sem])
    simp [numN_zero]
  rintro g hg
  (repeat' (first
    | ((first | with_reducible refine aw_seq ?_ | with_reducible refine aw_region (aops_run ?_) | (with_reducible refine aw_regionD (fun _ => .p) mixed ?_ (dops_run ?_); (· kernel_rfl)) | (with_reducible refine aw_regionD (fun _ => .r) mixed ?_ (dops_run ?_); (· kernel_rfl)) | with_reducible refine aw_condK ?_ | with_reducible refine aw_skip ?_ | with_reducible refine aw_ret ?_ | with_reducible refine aw_exit ?_ | with_reducible refine aw_label ?_ | with_reducible refine aw_block ?_ | with_reducible refine aw_scope ?_ | with_reducible refine And.intro ?_ ?_) <;> (try (simp (maxSteps := 1000000) (disch := first | omega | (simp only [List.length_append, List.length_cons, List.length_nil, List.length_map, bitsOf_len, readB_len, Int.natCast_add, Int.natCast_succ, Nat.zero_add, natCast_one, natCast_zero] <;> omega) | fail) only [go_sem])))
    | ((first | with_reducible refine wantK_split (fun h => ?_) (fun h => ?_) | with_reducible refine condK_split (fun h => ?_) (fun h => ?_) | with_reducible refine pickV_split (fun h => ?_) (fun h => ?_)) <;> (try (simp (maxSteps := 1000000) (disch := first | omega | (simp only [List.length_append, List.length_cons, List.length_nil, List.length_map, bitsOf_len, readB_len, Int.natCast_add, Int.natCast_succ, Nat.zero_add, natCast_one, natCast_zero] <;> omega) | fail) only [go_sem] at h)) <;> (try (simp (maxSteps := 1000000) (disch := first | omega | (simp only [List.length_append, List.length_cons, List.length_nil, List.length_map, bitsOf_len, readB_len, Int.natCast_add, Int.natCast_succ, Nat.zero_add, natCast_one, natCast_zero] <;> omega) | fail) only [go_sem, h])))))
  all_goals (try omega)
  · rw [show g = w from by omega]
  all_goals
    obtain ⟨m, hm⟩ : ∃ m : Nat, min (64 - ((a : Int) + g) % 64) ((w : Int) - g) = m := ⟨_, (Int.toNat_of_nonneg (by omega)).symm⟩
    have e1 : (((a : Int) + g) / 64).toNat = (a + g) / 64 := by omega
    have e2 : (((a : Int) + g) % 64).toNat = (a + g) % 64 := by omega
    rw [hm] at h
    refine ⟨g + m, by omega, wk_by [0] ?_, by omega⟩
  · (simp (maxSteps := 1000000) (disch := first | omega | (simp only [List.length_append, List.length_cons, List.length_nil, List.length_map, bitsOf_len, readB_len, Int.natCast_add, Int.natCast_succ, Nat.zero_add, natCast_one, natCast_zero] <;> omega) | fail) only [go_sem, e1, e2, hm, part_full, part_mask l (a + g) m (by omega) (by omega), part_or l a g m (by omega) (by omega) (by omega)])
  · have e3 : m = 64 - (a + g) % 64 := by omega
    have h4 := part_or l a g (64 - (a + g) % 64) (by omega) (by omega) (by omega)
    (simp (maxSteps := 1000000) (disch := first | omega | (simp only [List.length_append, List.length_cons, List.length_nil, List.length_map, bitsOf_len, readB_len, Int.natCast_add, Int.natCast_succ, Nat.zero_add, natCast_one, natCast_zero] <;> omega) | fail) only [go_sem, e1, e2, hm, part_full, h4])
    rw [e3]

theorem Number_spec (l : List Bool) (a w : Int) (hl : l.length ≤ 100000000000) : PCalls Try.prog 43 [bitsV l, .int .i64 a, .int .i64 w] (.tup [.int .u64 (numV l a w : Int), .int .i64 (numE l a w)]) := by
  by_cases hok : 0 ≤ w ∧ w ≤ 64 ∧ 0 ≤ a ∧ a + w ≤ l.length
  · obtain ⟨h1, h2, h3, h4⟩ := hok
    have e : numE l a w = 0 := by unfold numE; rw [if_neg (by omega), if_neg (by omega)]
    have := Number_ok l a.toNat w.toNat hl (by omega) (by omega)
    rw [numV, if_pos e, e]
    rwa [Int.toNat_of_nonneg h1, Int.toNat_of_nonneg h3] at this
  · refine PCalls.of_aw Try.func43 rfl (by unfold Callable; kernel_rfl) (by kernel_rfl) (by simp [Try.ntmps43]) ?_; rw [Try.ntmps43, Try.results43]; (simp (maxSteps := 1000000) (disch := first | omega | (simp only [List.length_append, List.length_cons, List.length_nil, List.length_map, bitsOf_len, readB_len, Int.natCast_add, Int.natCast_succ, Nat.zero_add, natCast_one, natCast_zero] <;> omega) | fail) only [go_sem])
    (repeat' (first
    | ((first | with_reducible refine aw_seq ?_ | with_reducible refine aw_region (aops_run ?_) | (with_reducible refine aw_regionD (fun _ => .p) mixed ?_ (dops_run ?_); (· kernel_rfl)) | (with_reducible refine aw_regionD (fun _ => .r) mixed ?_ (dops_run ?_); (· kernel_rfl)) | with_reducible refine aw_condK ?_ | with_reducible refine aw_skip ?_ | with_reducible refine aw_ret ?_ | with_reducible refine aw_exit ?_ | with_reducible refine aw_label ?_ | with_reducible refine aw_block ?_ | with_reducible refine aw_scope ?_ | with_reducible refine And.intro ?_ ?_) <;> (try (simp (maxSteps := 1000000) (disch := first | omega | (simp only [List.length_append, List.length_cons, List.length_nil, List.length_map, bitsOf_len, readB_len, Int.natCast_add, Int.natCast_succ, Nat.zero_add, natCast_one, natCast_zero] <;> omega) | fail) only [go_sem])))
    | ((first | with_reducible refine wantK_split (fun h => ?_) (fun h => ?_) | with_reducible refine condK_split (fun h => ?_) (fun h => ?_) | with_reducible refine pickV_split (fun h => ?_) (fun h => ?_)) <;> (try (simp (maxSteps := 1000000) (disch := first | omega | (simp only [List.length_append, List.length_cons, List.length_nil, List.length_map, bitsOf_len, readB_len, Int.natCast_add, Int.natCast_succ, Nat.zero_add, natCast_one, natCast_zero] <;> omega) | fail) only [go_sem] at h)) <;> (try (simp (maxSteps := 1000000) (disch := first | omega | (simp only [List.length_append, List.length_cons, List.length_nil, List.length_map, bitsOf_len, readB_len, Int.natCast_add, Int.natCast_succ, Nat.zero_add, natCast_one, natCast_zero] <;> omega) | fail) only [go_sem, h])))))
    all_goals (try omega)
    all_goals
      have key : ∀ e : Int, e ≠ 0 → numE l a w = e → some (IV.tup [.int .u64 0, .int .i64 e]) = some (IV.tup [.int .u64 (numV l a w : Int), .int .i64 (numE l a w)]) := by
        intro e he h1
        rw [numV, h1, if_neg he]; rfl
      refine key _ (by decide) ?_
      unfold numE
    · rw [if_pos (by omega)]
    · rw [if_neg (by omega), if_pos (by omega)]
    · rw [if_neg (by omega), if_pos (by omega)]
    · rw [if_neg (by omega), if_pos (by omega)]
    · rw [if_pos (by omega)]

def readOk (n : Int) (s : ByteArray) : Bool := decide (0 ≤ n ∧ n ≤ 8 * s.size) && ((bytesS (readB s n.toNat)).toList == s.toList)
def readV (n : Int) (s : ByteArray) : List Bool := if readOk n s = true then readB s n.toNat else []
def readE (n : Int) (s : ByteArray) : Int := if readOk n s = true then 0 else 10
theorem sq_bad : Sq (.tup [.agg [.int .i64 0, .sl 0 []], .int .i64 10]) (.tup [bitsV [], .int .i64 10]) := Sq.tup ⟨Sq.agg ⟨Sq.refl _, Sq.nil 0 1, trivial⟩, Sq.refl _, trivial⟩
theorem Read_spec (n : Int) (s : ByteArray) (hs : s.size ≤ 1000000000) : PCalls Try.prog 44 [.int .i64 n, .str s] (.tup [bitsV (readV n s), .int .i64 (readE n s)]) := by
  refine PCalls.of_awS Try.func44 rfl (by unfold Callable; kernel_rfl) (by kernel_rfl) (by simp [Try.ntmps44]) ?_; rw [Try.ntmps44, Try.results44]; (simp (maxSteps := 1000000) (disch := first | omega | (simp only [List.length_append, List.length_cons, List.length_nil, List.length_map, bitsOf_len, readB_len, Int.natCast_add, Int.natCast_succ, Nat.zero_add, natCast_one, natCast_zero] <;> omega) | fail) only [go_sem])
  (repeat' (first
    | ((first | with_reducible refine aw_seq ?_ | with_reducible refine aw_region (aops_run ?_) | (with_reducible refine aw_regionD (fun _ => .p) mixed ?_ (dops_run ?_); (· kernel_rfl)) | (with_reducible refine aw_regionD (fun _ => .r) mixed ?_ (dops_run ?_); (· kernel_rfl)) | with_reducible refine aw_condK ?_ | with_reducible refine aw_skip ?_ | with_reducible refine aw_ret ?_ | with_reducible refine aw_exit ?_ | with_reducible refine aw_label ?_ | with_reducible refine aw_block ?_ | with_reducible refine aw_scope ?_ | with_reducible refine And.intro ?_ ?_) <;> (try (simp (maxSteps := 1000000) (disch := first | omega | (simp only [List.length_append, List.length_cons, List.length_nil, List.length_map, bitsOf_len, readB_len, Int.natCast_add, Int.natCast_succ, Nat.zero_add, natCast_one, natCast_zero] <;> omega) | fail) only [go_sem])))
    | ((first | with_reducible refine wantK_split (fun h => ?_) (fun h => ?_) | with_reducible refine condK_split (fun h => ?_) (fun h => ?_) | with_reducible refine pickV_split (fun h => ?_) (fun h => ?_)) <;> (try (simp (maxSteps := 1000000) (disch := first | omega | (simp only [List.length_append, List.length_cons, List.length_nil, List.length_map, bitsOf_len, readB_len, Int.natCast_add, Int.natCast_succ, Nat.zero_add, natCast_one, natCast_zero] <;> omega) | fail) only [go_sem] at h)) <;> (try (simp (maxSteps := 1000000) (disch := first | omega | (simp only [List.length_append, List.length_cons, List.length_nil, List.length_map, bitsOf_len, readB_len, Int.natCast_add, Int.natCast_succ, Nat.zero_add, natCast_one, natCast_zero] <;> omega) | fail) only [go_sem, h])))))
  all_goals (try omega)
  · have e : readOk n s = false := by unfold readOk; rw [decide_eq_false (by omega)]; rfl
    unfold readV readE
    rw [e]; exact sq_bad
  · ((first | with_reducible refine left_callMs [] (New_spec) ?_ ?_ | with_reducible refine leftD_callMs [] rfl (New_spec) ?_ ?_ | with_reducible refine leftD_callRs [] (by decide) (New_spec) ?_ ?_); (· (simp (maxSteps := 1000000) (disch := first | omega | (simp only [List.length_append, List.length_cons, List.length_nil, List.length_map, bitsOf_len, readB_len, Int.natCast_add, Int.natCast_succ, Nat.zero_add, natCast_one, natCast_zero] <;> omega) | fail) only [go_sem])); try (simp (maxSteps := 1000000) (disch := first | omega | (simp only [List.length_append, List.length_cons, List.length_nil, List.length_map, bitsOf_len, readB_len, Int.natCast_add, Int.natCast_succ, Nat.zero_add, natCast_one, natCast_zero] <;> omega) | fail) only [go_sem]))
    (repeat' (first
    | ((first | with_reducible refine aw_seq ?_ | with_reducible refine aw_region (aops_run ?_) | (with_reducible refine aw_regionD (fun _ => .p) mixed ?_ (dops_run ?_); (· kernel_rfl)) | (with_reducible refine aw_regionD (fun _ => .r) mixed ?_ (dops_run ?_); (· kernel_rfl)) | with_reducible refine aw_condK ?_ | with_reducible refine aw_skip ?_ | with_reducible refine aw_ret ?_ | with_reducible refine aw_exit ?_ | with_reducible refine aw_label ?_ | with_reducible refine aw_block ?_ | with_reducible refine aw_scope ?_ | with_reducible refine And.intro ?_ ?_) <;> (try (simp (maxSteps := 1000000) (disch := first | omega | (simp only [List.length_append, List.length_cons, List.length_nil, List.length_map, bitsOf_len, readB_len, Int.natCast_add, Int.natCast_succ, Nat.zero_add, natCast_one, natCast_zero] <;> omega) | fail) only [go_sem])))
    | ((first | with_reducible refine wantK_split (fun h => ?_) (fun h => ?_) | with_reducible refine condK_split (fun h => ?_) (fun h => ?_) | with_reducible refine pickV_split (fun h => ?_) (fun h => ?_)) <;> (try (simp (maxSteps := 1000000) (disch := first | omega | (simp only [List.length_append, List.length_cons, List.length_nil, List.length_map, bitsOf_len, readB_len, Int.natCast_add, Int.natCast_succ, Nat.zero_add, natCast_one, natCast_zero] <;> omega) | fail) only [go_sem] at h)) <;> (try (simp (maxSteps := 1000000) (disch := first | omega | (simp only [List.length_append, List.length_cons, List.length_nil, List.length_map, bitsOf_len, readB_len, Int.natCast_add, Int.natCast_succ, Nat.zero_add, natCast_one, natCast_zero] <;> omega) | fail) only [go_sem, h])))))
    refine aw_loop (α := Nat) (fun j => ⟨44, sl [(1, .iv (.str s)), (4, .mp 0 0), (6, .mp 1 0), (20, .iv (.int .i64 n)), (21, .iv (.int .i64 j))],
      [.var 27 [.iv (.int .i64 0), .nilsl], .var 91 [.iv (.int .i64 (readB s j).length), .msl 2 0 (((readB s j).length + 63) / 64) (((readB s j).length + 63) / 64)], .row true 53 1 (ws (readB s j))], 0⟩)
      (fun j => (j : Int) ≤ n) (fun j => n.toNat - j) 0 (wk_by [0, 1, 2] ?_) (by omega) ?_
    · (simp (maxSteps := 1000000) (disch := first | omega | (simp only [List.length_append, List.length_cons, List.length_nil, List.length_map, bitsOf_len, readB_len, Int.natCast_add, Int.natCast_succ, Nat.zero_add, natCast_one, natCast_zero] <;> omega) | fail) only [go_sem])
      exact ⟨rfl, rfl⟩
    rintro j hj
    have hjl := readB_len s j
    (repeat' (first
    | ((first | with_reducible refine aw_seq ?_ | with_reducible refine aw_region (aops_run ?_) | (with_reducible refine aw_regionD (fun _ => .p) mixed ?_ (dops_run ?_); (· kernel_rfl)) | (with_reducible refine aw_regionD (fun _ => .r) mixed ?_ (dops_run ?_); (· kernel_rfl)) | with_reducible refine aw_condK ?_ | with_reducible refine aw_skip ?_ | with_reducible refine aw_ret ?_ | with_reducible refine aw_exit ?_ | with_reducible refine aw_label ?_ | with_reducible refine aw_block ?_ | with_reducible refine aw_scope ?_ | with_reducible refine And.intro ?_ ?_) <;> (try (simp (maxSteps := 1000000) (disch := first | omega | (simp only [List.length_append, List.length_cons, List.length_nil, List.length_map, bitsOf_len, readB_len, Int.natCast_add, Int.natCast_succ, Nat.zero_add, natCast_one, natCast_zero] <;> omega) | fail) only [go_sem])))
    | ((first | with_reducible refine wantK_split (fun h => ?_) (fun h => ?_) | with_reducible refine condK_split (fun h => ?_) (fun h => ?_) | with_reducible refine pickV_split (fun h => ?_) (fun h => ?_)) <;> (try (simp (maxSteps := 1000000) (disch := first | omega | (simp only [List.length_append, List.length_cons, List.length_nil, List.length_map, bitsOf_len, readB_len, Int.natCast_add, Int.natCast_succ, Nat.zero_add, natCast_one, natCast_zero] <;> omega) | fail) only [go_sem] at h)) <;> (try (simp (maxSteps := 1000000) (disch := first | omega | (simp only [List.length_append, List.length_cons, List.length_nil, List.length_map, bitsOf_len, readB_len, Int.natCast_add, Int.natCast_succ, Nat.zero_add, natCast_one, natCast_zero] <;> omega) | fail) only [go_sem, h])))))
    all_goals (try omega)
    · have hb := bit8 (s.data.toList.getD (j / 8) 0).toNat (UInt8.toNat_lt _) (i := (j : Int) % 8) (by omega) (by omega)
      have e1 : ((j : Int) / 8).toNat = j / 8 := by omega
      have e2 : ((j : Int) % 8).toNat = j % 8 := by omega
      rw [e2] at hb
      (simp (maxSteps := 1000000) (disch := first | omega | (simp only [List.length_append, List.length_cons, List.length_nil, List.length_map, bitsOf_len, readB_len, Int.natCast_add, Int.natCast_succ, Nat.zero_add, natCast_one, natCast_zero] <;> omega) | fail) only [go_sem, e1, e2, hb])
      ((first | with_reducible refine left_callMs [1, 2] (Add_spec (readB s j) ((s.data.toList.getD (j / 8) 0).toNat / 2 ^ (j % 8) % 2 == 1) (by omega)) ?_ ?_ | with_reducible refine leftD_callMs [1, 2] rfl (Add_spec (readB s j) ((s.data.toList.getD (j / 8) 0).toNat / 2 ^ (j % 8) % 2 == 1) (by omega)) ?_ ?_ | with_reducible refine leftD_callRs [1, 2] (by decide) (Add_spec (readB s j) ((s.data.toList.getD (j / 8) 0).toNat / 2 ^ (j % 8) % 2 == 1) (by omega)) ?_ ?_); (· (simp (maxSteps := 1000000) (disch := first | omega | (simp only [List.length_append, List.length_cons, List.length_nil, List.length_map, bitsOf_len, readB_len, Int.natCast_add, Int.natCast_succ, Nat.zero_add, natCast_one, natCast_zero] <;> omega) | fail) only [go_sem])); try (simp (maxSteps := 1000000) (disch := first | omega | (simp only [List.length_append, List.length_cons, List.length_nil, List.length_map, bitsOf_len, readB_len, Int.natCast_add, Int.natCast_succ, Nat.zero_add, natCast_one, natCast_zero] <;> omega) | fail) only [go_sem]))
      (repeat' (first
    | ((first | with_reducible refine aw_seq ?_ | with_reducible refine aw_region (aops_run ?_) | (with_reducible refine aw_regionD (fun _ => .p) mixed ?_ (dops_run ?_); (· kernel_rfl)) | (with_reducible refine aw_regionD (fun _ => .r) mixed ?_ (dops_run ?_); (· kernel_rfl)) | with_reducible refine aw_condK ?_ | with_reducible refine aw_skip ?_ | with_reducible refine aw_ret ?_ | with_reducible refine aw_exit ?_ | with_reducible refine aw_label ?_ | with_reducible refine aw_block ?_ | with_reducible refine aw_scope ?_ | with_reducible refine And.intro ?_ ?_) <;> (try (simp (maxSteps := 1000000) (disch := first | omega | (simp only [List.length_append, List.length_cons, List.length_nil, List.length_map, bitsOf_len, readB_len, Int.natCast_add, Int.natCast_succ, Nat.zero_add, natCast_one, natCast_zero] <;> omega) | fail) only [go_sem])))
    | ((first | with_reducible refine wantK_split (fun h => ?_) (fun h => ?_) | with_reducible refine condK_split (fun h => ?_) (fun h => ?_) | with_reducible refine pickV_split (fun h => ?_) (fun h => ?_)) <;> (try (simp (maxSteps := 1000000) (disch := first | omega | (simp only [List.length_append, List.length_cons, List.length_nil, List.length_map, bitsOf_len, readB_len, Int.natCast_add, Int.natCast_succ, Nat.zero_add, natCast_one, natCast_zero] <;> omega) | fail) only [go_sem] at h)) <;> (try (simp (maxSteps := 1000000) (disch := first | omega | (simp only [List.length_append, List.length_cons, List.length_nil, List.length_map, bitsOf_len, readB_len, Int.natCast_add, Int.natCast_succ, Nat.zero_add, natCast_one, natCast_zero] <;> omega) | fail) only [go_sem, h])))))
      refine ⟨j + 1, by omega, wk_by [0, 1, 2] ?_, by omega⟩
      (simp (maxSteps := 1000000) (disch := first | omega | (simp only [List.length_append, List.length_cons, List.length_nil, List.length_map, bitsOf_len, readB_len, Int.natCast_add, Int.natCast_succ, Nat.zero_add, natCast_one, natCast_zero] <;> omega) | fail) only [go_sem, readB_succ, hjl])
    · have ej : n.toNat = j := by omega
      ((first | with_reducible refine left_callMs [1, 2] (Bits_spec (readB s j) (by omega)) ?_ ?_ | with_reducible refine leftD_callMs [1, 2] rfl (Bits_spec (readB s j) (by omega)) ?_ ?_ | with_reducible refine leftD_callRs [1, 2] (by decide) (Bits_spec (readB s j) (by omega)) ?_ ?_); (· (simp (maxSteps := 1000000) (disch := first | omega | (simp only [List.length_append, List.length_cons, List.length_nil, List.length_map, bitsOf_len, readB_len, Int.natCast_add, Int.natCast_succ, Nat.zero_add, natCast_one, natCast_zero] <;> omega) | fail) only [go_sem])); try (simp (maxSteps := 1000000) (disch := first | omega | (simp only [List.length_append, List.length_cons, List.length_nil, List.length_map, bitsOf_len, readB_len, Int.natCast_add, Int.natCast_succ, Nat.zero_add, natCast_one, natCast_zero] <;> omega) | fail) only [go_sem]))
      (repeat' (first
    | ((first | with_reducible refine aw_seq ?_ | with_reducible refine aw_region (aops_run ?_) | (with_reducible refine aw_regionD (fun _ => .p) mixed ?_ (dops_run ?_); (· kernel_rfl)) | (with_reducible refine aw_regionD (fun _ => .r) mixed ?_ (dops_run ?_); (· kernel_rfl)) | with_reducible refine aw_condK ?_ | with_reducible refine aw_skip ?_ | with_reducible refine aw_ret ?_ | with_reducible refine aw_exit ?_ | with_reducible refine aw_label ?_ | with_reducible refine aw_block ?_ | with_reducible refine aw_scope ?_ | with_reducible refine And.intro ?_ ?_) <;> (try (simp (maxSteps := 1000000) (disch := first | omega | (simp only [List.length_append, List.length_cons, List.length_nil, List.length_map, bitsOf_len, readB_len, Int.natCast_add, Int.natCast_succ, Nat.zero_add, natCast_one, natCast_zero] <;> omega) | fail) only [go_sem])))
    | ((first | with_reducible refine wantK_split (fun h => ?_) (fun h => ?_) | with_reducible refine condK_split (fun h => ?_) (fun h => ?_) | with_reducible refine pickV_split (fun h => ?_) (fun h => ?_)) <;> (try (simp (maxSteps := 1000000) (disch := first | omega | (simp only [List.length_append, List.length_cons, List.length_nil, List.length_map, bitsOf_len, readB_len, Int.natCast_add, Int.natCast_succ, Nat.zero_add, natCast_one, natCast_zero] <;> omega) | fail) only [go_sem] at h)) <;> (try (simp (maxSteps := 1000000) (disch := first | omega | (simp only [List.length_append, List.length_cons, List.length_nil, List.length_map, bitsOf_len, readB_len, Int.natCast_add, Int.natCast_succ, Nat.zero_add, natCast_one, natCast_zero] <;> omega) | fail) only [go_sem, h])))))
      ((first | with_reducible apply left_callf | with_reducible apply leftD_callf); (· with_reducible rfl); (· (simp (maxSteps := 1000000) (disch := first | omega | (simp only [List.length_append, List.length_cons, List.length_nil, List.length_map, bitsOf_len, readB_len, Int.natCast_add, Int.natCast_succ, Nat.zero_add, natCast_one, natCast_zero] <;> omega) | fail) only [go_sem]) <;> rfl); (· exact Bytes_spec _ (by omega)); try (simp (maxSteps := 1000000) (disch := first | omega | (simp only [List.length_append, List.length_cons, List.length_nil, List.length_map, bitsOf_len, readB_len, Int.natCast_add, Int.natCast_succ, Nat.zero_add, natCast_one, natCast_zero] <;> omega) | fail) only [go_sem]))
      (repeat' (first
    | ((first | with_reducible refine aw_seq ?_ | with_reducible refine aw_region (aops_run ?_) | (with_reducible refine aw_regionD (fun _ => .p) mixed ?_ (dops_run ?_); (· kernel_rfl)) | (with_reducible refine aw_regionD (fun _ => .r) mixed ?_ (dops_run ?_); (· kernel_rfl)) | with_reducible refine aw_condK ?_ | with_reducible refine aw_skip ?_ | with_reducible refine aw_ret ?_ | with_reducible refine aw_exit ?_ | with_reducible refine aw_label ?_ | with_reducible refine aw_block ?_ | with_reducible refine aw_scope ?_ | with_reducible refine And.intro ?_ ?_) <;> (try (simp (maxSteps := 1000000) (disch := first | omega | (simp only [List.length_append, List.length_cons, List.length_nil, List.length_map, bitsOf_len, readB_len, Int.natCast_add, Int.natCast_succ, Nat.zero_add, natCast_one, natCast_zero] <;> omega) | fail) only [go_sem])))
    | ((first | with_reducible refine wantK_split (fun h => ?_) (fun h => ?_) | with_reducible refine condK_split (fun h => ?_) (fun h => ?_) | with_reducible refine pickV_split (fun h => ?_) (fun h => ?_)) <;> (try (simp (maxSteps := 1000000) (disch := first | omega | (simp only [List.length_append, List.length_cons, List.length_nil, List.length_map, bitsOf_len, readB_len, Int.natCast_add, Int.natCast_succ, Nat.zero_add, natCast_one, natCast_zero] <;> omega) | fail) only [go_sem] at h)) <;> (try (simp (maxSteps := 1000000) (disch := first | omega | (simp only [List.length_append, List.length_cons, List.length_nil, List.length_map, bitsOf_len, readB_len, Int.natCast_add, Int.natCast_succ, Nat.zero_add, natCast_one, natCast_zero] <;> omega) | fail) only [go_sem, h])))))
      · have e : readOk n s = false := by unfold readOk; rw [ej, h, Bool.and_false]
        unfold readV readE
        rw [e]; exact sq_bad
      · have e : readOk n s = true := by unfold readOk; rw [ej, h, Bool.and_true, decide_eq_true_eq]; omega
        unfold readV readE
        rw [e, if_pos rfl, if_pos rfl, ej]; exact Sq.refl _
  · have e : readOk n s = false := by unfold readOk; rw [decide_eq_false (by omega)]; rfl
    unfold readV readE
    rw [e]; exact sq_bad
end Go.Proofs.Ytnmfnekfobbabaa.AM
