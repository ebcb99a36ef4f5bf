
/- Chapter 6: Stable. No condition. -/
import Derived.Test.YtebegdnebjjnmaaO1
set_option linter.unusedVariables false
set_option linter.unusedSimpArgs false
set_option maxRecDepth 20000
namespace Go.Proofs.Ytebegdnebjjnmaa.AM
open Go Go.RowKit

theorem rowF_inl (n : Nat) (f : Nat → Int) : IV.sl 1 (rowF n f) = inl ((List.range n).map f) := by
  unfold rowF inl; rw [List.map_map]; rfl
def offK (sz k : Int) : Bool := decide (k < 0) || decide (sz ≤ k)
theorem wrong_spec (sz k : Int) : MCalls Try.prog 29 [.iv (.int .i64 k), .mp 0 0] [.var 3 [.iv (.int .i64 sz)]] (.iv (.bool (offK sz k))) [.var 3 [.iv (.int .i64 sz)]] := by
  unfold offK
  refine MCalls.of_aw Try.func29 rfl (by unfold Callable; kernel_rfl) (by kernel_rfl) (by simp [Try.ntmps29]) (by (simp (maxSteps := 1000000) (disch := first | omega | (simp only [List.length_append, List.length_cons, List.length_nil, List.length_map, bitsOf_len, readB_len, Int.natCast_add, Int.natCast_succ, Nat.zero_add, natCast_one, natCast_zero] <;> omega) | fail) only [go_sem])) ?_; rw [Try.ntmps29, Try.results29]; (simp (maxSteps := 1000000) (disch := first | omega | (simp only [List.length_append, List.length_cons, List.length_nil, List.length_map, bitsOf_len, readB_len, Int.natCast_add, Int.natCast_succ, Nat.zero_add, natCast_one, natCast_zero] <;> omega) | fail) only [go_sem])
  (repeat' (first
    | ((first | with_reducible refine aw_seq ?_ | with_reducible refine aw_region (aops_run ?_) | (with_reducible refine aw_regionD (fun _ => .p) mixed ?_ (dops_run ?_); (· kernel_rfl)) | (with_reducible refine aw_regionD (fun _ => .r) mixed ?_ (dops_run ?_); (· kernel_rfl)) | with_reducible refine aw_condK ?_ | with_reducible refine aw_skip ?_ | with_reducible refine aw_ret ?_ | with_reducible refine aw_exit ?_ | with_reducible refine aw_label ?_ | with_reducible refine aw_block ?_ | with_reducible refine aw_scope ?_ | with_reducible refine And.intro ?_ ?_) <;> (try (simp (maxSteps := 1000000) (disch := first | omega | (simp only [List.length_append, List.length_cons, List.length_nil, List.length_map, bitsOf_len, readB_len, Int.natCast_add, Int.natCast_succ, Nat.zero_add, natCast_one, natCast_zero] <;> omega) | fail) only [go_sem])))
    | ((first | with_reducible refine wantK_split (fun h => ?_) (fun h => ?_) | with_reducible refine condK_split (fun h => ?_) (fun h => ?_) | with_reducible refine pickV_split (fun h => ?_) (fun h => ?_)) <;> (try (simp (maxSteps := 1000000) (disch := first | omega | (simp only [List.length_append, List.length_cons, List.length_nil, List.length_map, bitsOf_len, readB_len, Int.natCast_add, Int.natCast_succ, Nat.zero_add, natCast_one, natCast_zero] <;> omega) | fail) only [go_sem] at h)) <;> (try (simp (maxSteps := 1000000) (disch := first | omega | (simp only [List.length_append, List.length_cons, List.length_nil, List.length_map, bitsOf_len, readB_len, Int.natCast_add, Int.natCast_succ, Nat.zero_add, natCast_one, natCast_zero] <;> omega) | fail) only [go_sem, h])))))
  · refine fin_k [0] ?_
    (simp (maxSteps := 1000000) (disch := first | omega | (simp only [List.length_append, List.length_cons, List.length_nil, List.length_map, bitsOf_len, readB_len, Int.natCast_add, Int.natCast_succ, Nat.zero_add, natCast_one, natCast_zero] <;> omega) | fail) only [go_sem])
    rw [decide_eq_false (show ¬ k < 0 by omega)]; rfl
  · refine fin_k [0] ?_
    (simp (maxSteps := 1000000) (disch := first | omega | (simp only [List.length_append, List.length_cons, List.length_nil, List.length_map, bitsOf_len, readB_len, Int.natCast_add, Int.natCast_succ, Nat.zero_add, natCast_one, natCast_zero] <;> omega) | fail) only [go_sem])
    rw [decide_eq_true (show k < 0 by omega)]; rfl
/-- A key as a bucket's number. -/
def keyN (keys : List Int) (t : Nat) : Nat := (keys.getD t 0).toNat
def idL (n : Nat) : List Int := (List.range n).map fun (m : Nat) => (m : Int)
/-- Places by rising keys. -/
def stabG (K : Nat → Nat) (n : Nat) : List Int := (List.range n).map (outF K (idL n) n)
def stabL (keys : List Int) : List Int := stabG (keyN keys) keys.length
def stabOk (keys : List Int) (sz : Int) : Bool := decide (1 ≤ sz ∧ sz ≤ 1048576) && !(keys.any (offK sz))
theorem Stable_no (keys : List Int) (sz : Int) (hl : keys.length ≤ 1000000) (hs : ∀ n ∈ keys, small n) (h : stabOk keys sz = false) :
    PCalls Try.prog 12 [inl keys, .int .i64 sz] (.tup [inl [], .int .i64 1]) := by
  unfold stabOk at h
  have hh := h
  have hC := ContainsFunc_spec 29 3 (.int .i64 sz) (offK sz) (fun n _ => wrong_spec sz n) keys (by omega) hs
  refine PCalls.of_aw Try.func12 rfl (by unfold Callable; kernel_rfl) (by kernel_rfl) (by simp [Try.ntmps12]) ?_; rw [Try.ntmps12, Try.results12]; (simp (maxSteps := 1000000) (disch := first | omega | (simp only [List.length_append, List.length_cons, List.length_nil, List.length_map, bitsOf_len, readB_len, Int.natCast_add, Int.natCast_succ, Nat.zero_add, natCast_one, natCast_zero] <;> omega) | fail) only [go_sem])
  (repeat' (first
    | ((first | with_reducible refine aw_seq ?_ | with_reducible refine aw_region (aops_run ?_) | (with_reducible refine aw_regionD (fun _ => .p) mixed ?_ (dops_run ?_); (· kernel_rfl)) | (with_reducible refine aw_regionD (fun _ => .r) mixed ?_ (dops_run ?_); (· kernel_rfl)) | with_reducible refine aw_condK ?_ | with_reducible refine aw_skip ?_ | with_reducible refine aw_ret ?_ | with_reducible refine aw_exit ?_ | with_reducible refine aw_label ?_ | with_reducible refine aw_block ?_ | with_reducible refine aw_scope ?_ | with_reducible refine And.intro ?_ ?_) <;> (try (simp (maxSteps := 1000000) (disch := first | omega | (simp only [List.length_append, List.length_cons, List.length_nil, List.length_map, bitsOf_len, readB_len, Int.natCast_add, Int.natCast_succ, Nat.zero_add, natCast_one, natCast_zero] <;> omega) | fail) only [go_sem])))
    | ((first | with_reducible refine wantK_split (fun h => ?_) (fun h => ?_) | with_reducible refine condK_split (fun h => ?_) (fun h => ?_) | with_reducible refine pickV_split (fun h => ?_) (fun h => ?_)) <;> (try (simp (maxSteps := 1000000) (disch := first | omega | (simp only [List.length_append, List.length_cons, List.length_nil, List.length_map, bitsOf_len, readB_len, Int.natCast_add, Int.natCast_succ, Nat.zero_add, natCast_one, natCast_zero] <;> omega) | fail) only [go_sem] at h)) <;> (try (simp (maxSteps := 1000000) (disch := first | omega | (simp only [List.length_append, List.length_cons, List.length_nil, List.length_map, bitsOf_len, readB_len, Int.natCast_add, Int.natCast_succ, Nat.zero_add, natCast_one, natCast_zero] <;> omega) | fail) only [go_sem, h])))))
  · rw [decide_eq_true (show 1 ≤ sz ∧ sz ≤ 1048576 by omega), Bool.true_and, Bool.not_eq_false'] at hh
    rw [hh] at hC
    ((first | with_reducible refine left_callMs [0] (hC) ?_ ?_ | with_reducible refine leftD_callMs [0] rfl (hC) ?_ ?_ | with_reducible refine leftD_callRs [0] (by decide) (hC) ?_ ?_); (· (simp (maxSteps := 1000000) (disch := first | omega | (simp only [List.length_append, List.length_cons, List.length_nil, List.length_map, bitsOf_len, readB_len, Int.natCast_add, Int.natCast_succ, Nat.zero_add, natCast_one, natCast_zero] <;> omega) | fail) only [go_sem])); try (simp (maxSteps := 1000000) (disch := first | omega | (simp only [List.length_append, List.length_cons, List.length_nil, List.length_map, bitsOf_len, readB_len, Int.natCast_add, Int.natCast_succ, Nat.zero_add, natCast_one, natCast_zero] <;> omega) | fail) only [go_sem]))
    (repeat' (first
    | ((first | with_reducible refine aw_seq ?_ | with_reducible refine aw_region (aops_run ?_) | (with_reducible refine aw_regionD (fun _ => .p) mixed ?_ (dops_run ?_); (· kernel_rfl)) | (with_reducible refine aw_regionD (fun _ => .r) mixed ?_ (dops_run ?_); (· kernel_rfl)) | with_reducible refine aw_condK ?_ | with_reducible refine aw_skip ?_ | with_reducible refine aw_ret ?_ | with_reducible refine aw_exit ?_ | with_reducible refine aw_label ?_ | with_reducible refine aw_block ?_ | with_reducible refine aw_scope ?_ | with_reducible refine And.intro ?_ ?_) <;> (try (simp (maxSteps := 1000000) (disch := first | omega | (simp only [List.length_append, List.length_cons, List.length_nil, List.length_map, bitsOf_len, readB_len, Int.natCast_add, Int.natCast_succ, Nat.zero_add, natCast_one, natCast_zero] <;> omega) | fail) only [go_sem])))
    | ((first | with_reducible refine wantK_split (fun h => ?_) (fun h => ?_) | with_reducible refine condK_split (fun h => ?_) (fun h => ?_) | with_reducible refine pickV_split (fun h => ?_) (fun h => ?_)) <;> (try (simp (maxSteps := 1000000) (disch := first | omega | (simp only [List.length_append, List.length_cons, List.length_nil, List.length_map, bitsOf_len, readB_len, Int.natCast_add, Int.natCast_succ, Nat.zero_add, natCast_one, natCast_zero] <;> omega) | fail) only [go_sem] at h)) <;> (try (simp (maxSteps := 1000000) (disch := first | omega | (simp only [List.length_append, List.length_cons, List.length_nil, List.length_map, bitsOf_len, readB_len, Int.natCast_add, Int.natCast_succ, Nat.zero_add, natCast_one, natCast_zero] <;> omega) | fail) only [go_sem, h])))))
    all_goals trace_state
  all_goals trace_state
theorem Stable_ok (keys : List Int) (sz : Int) (hl : keys.length ≤ 1000000) (hs : ∀ n ∈ keys, small n) (h : stabOk keys sz = true) :
    PCalls Try.prog 12 [inl keys, .int .i64 sz] (.tup [inl (stabL keys), .int .i64 0]) := by
  unfold stabOk at h
  rw [Bool.and_eq_true, decide_eq_true_eq, Bool.not_eq_true'] at h
  obtain ⟨⟨h1, h2⟩, h3⟩ := h
  obtain ⟨z, rfl⟩ : ∃ z : Nat, sz = z := ⟨sz.toNat, by omega⟩
  have hin : ∀ t, t < keys.length → 0 ≤ keys.getD t 0 ∧ keys.getD t 0 < z := by
    intro t ht
    have e : keys.getD t 0 = keys[t] := by simp [List.getD, List.getElem?_eq_getElem ht]
    have := List.any_eq_false.1 h3 _ (List.getElem_mem ht)
    rw [← e] at this
    unfold offK at this
    rw [Bool.or_eq_true, decide_eq_true_eq, decide_eq_true_eq, not_or] at this
    omega
  have hpl : (idL keys.length).length = keys.length := by simp [idL]
  have hP : Plc (idL keys.length) keys (z + 1) (keyN keys) := by
    refine ⟨fun t ht => ?_, by omega, by omega⟩
    rw [hpl] at ht
    have hi := hin t ht
    refine ⟨t, by simp [idL, List.getD, ht], ht, by unfold keyN; omega, by unfold keyN; omega⟩
  have hB := buckets_spec _ keys z (keyN keys) hP
  rw [hpl, rowF_inl] at hB
  have hA := all_spec keys.length (by omega)
  rw [rowF_inl] at hA
  change PCalls _ _ _ (inl (idL keys.length)) at hA
  refine PCalls.of_aw Try.func12 rfl (by unfold Callable; kernel_rfl) (by kernel_rfl) (by simp [Try.ntmps12]) ?_; rw [Try.ntmps12, Try.results12]; (simp (maxSteps := 1000000) (disch := first | omega | (simp only [List.length_append, List.length_cons, List.length_nil, List.length_map, bitsOf_len, readB_len, Int.natCast_add, Int.natCast_succ, Nat.zero_add, natCast_one, natCast_zero] <;> omega) | fail) only [go_sem])
  (repeat' (first
    | ((first | with_reducible refine aw_seq ?_ | with_reducible refine aw_region (aops_run ?_) | (with_reducible refine aw_regionD (fun _ => .p) mixed ?_ (dops_run ?_); (· kernel_rfl)) | (with_reducible refine aw_regionD (fun _ => .r) mixed ?_ (dops_run ?_); (· kernel_rfl)) | with_reducible refine aw_condK ?_ | with_reducible refine aw_skip ?_ | with_reducible refine aw_ret ?_ | with_reducible refine aw_exit ?_ | with_reducible refine aw_label ?_ | with_reducible refine aw_block ?_ | with_reducible refine aw_scope ?_ | with_reducible refine And.intro ?_ ?_) <;> (try (simp (maxSteps := 1000000) (disch := first | omega | (simp only [List.length_append, List.length_cons, List.length_nil, List.length_map, bitsOf_len, readB_len, Int.natCast_add, Int.natCast_succ, Nat.zero_add, natCast_one, natCast_zero] <;> omega) | fail) only [go_sem])))
    | ((first | with_reducible refine wantK_split (fun h => ?_) (fun h => ?_) | with_reducible refine condK_split (fun h => ?_) (fun h => ?_) | with_reducible refine pickV_split (fun h => ?_) (fun h => ?_)) <;> (try (simp (maxSteps := 1000000) (disch := first | omega | (simp only [List.length_append, List.length_cons, List.length_nil, List.length_map, bitsOf_len, readB_len, Int.natCast_add, Int.natCast_succ, Nat.zero_add, natCast_one, natCast_zero] <;> omega) | fail) only [go_sem] at h)) <;> (try (simp (maxSteps := 1000000) (disch := first | omega | (simp only [List.length_append, List.length_cons, List.length_nil, List.length_map, bitsOf_len, readB_len, Int.natCast_add, Int.natCast_succ, Nat.zero_add, natCast_one, natCast_zero] <;> omega) | fail) only [go_sem, h])))))
  all_goals (try omega)
  have hC := ContainsFunc_spec 29 3 (.int .i64 z) (offK z) (fun n _ => wrong_spec z n) keys (by omega) hs
  rw [h3] at hC
  ((first | with_reducible refine left_callMs [0] (hC) ?_ ?_ | with_reducible refine leftD_callMs [0] rfl (hC) ?_ ?_ | with_reducible refine leftD_callRs [0] (by decide) (hC) ?_ ?_); (· (simp (maxSteps := 1000000) (disch := first | omega | (simp only [List.length_append, List.length_cons, List.length_nil, List.length_map, bitsOf_len, readB_len, Int.natCast_add, Int.natCast_succ, Nat.zero_add, natCast_one, natCast_zero] <;> omega) | fail) only [go_sem])); try (simp (maxSteps := 1000000) (disch := first | omega | (simp only [List.length_append, List.length_cons, List.length_nil, List.length_map, bitsOf_len, readB_len, Int.natCast_add, Int.natCast_succ, Nat.zero_add, natCast_one, natCast_zero] <;> omega) | fail) only [go_sem]))
  (repeat' (first
    | ((first | with_reducible refine aw_seq ?_ | with_reducible refine aw_region (aops_run ?_) | (with_reducible refine aw_regionD (fun _ => .p) mixed ?_ (dops_run ?_); (· kernel_rfl)) | (with_reducible refine aw_regionD (fun _ => .r) mixed ?_ (dops_run ?_); (· kernel_rfl)) | with_reducible refine aw_condK ?_ | with_reducible refine aw_skip ?_ | with_reducible refine aw_ret ?_ | with_reducible refine aw_exit ?_ | with_reducible refine aw_label ?_ | with_reducible refine aw_block ?_ | with_reducible refine aw_scope ?_ | with_reducible refine And.intro ?_ ?_) <;> (try (simp (maxSteps := 1000000) (disch := first | omega | (simp only [List.length_append, List.length_cons, List.length_nil, List.length_map, bitsOf_len, readB_len, Int.natCast_add, Int.natCast_succ, Nat.zero_add, natCast_one, natCast_zero] <;> omega) | fail) only [go_sem])))
    | ((first | with_reducible refine wantK_split (fun h => ?_) (fun h => ?_) | with_reducible refine condK_split (fun h => ?_) (fun h => ?_) | with_reducible refine pickV_split (fun h => ?_) (fun h => ?_)) <;> (try (simp (maxSteps := 1000000) (disch := first | omega | (simp only [List.length_append, List.length_cons, List.length_nil, List.length_map, bitsOf_len, readB_len, Int.natCast_add, Int.natCast_succ, Nat.zero_add, natCast_one, natCast_zero] <;> omega) | fail) only [go_sem] at h)) <;> (try (simp (maxSteps := 1000000) (disch := first | omega | (simp only [List.length_append, List.length_cons, List.length_nil, List.length_map, bitsOf_len, readB_len, Int.natCast_add, Int.natCast_succ, Nat.zero_add, natCast_one, natCast_zero] <;> omega) | fail) only [go_sem, h])))))
  ((first | with_reducible apply left_callf | with_reducible apply leftD_callf); (· with_reducible rfl); (· (simp (maxSteps := 1000000) (disch := first | omega | (simp only [List.length_append, List.length_cons, List.length_nil, List.length_map, bitsOf_len, readB_len, Int.natCast_add, Int.natCast_succ, Nat.zero_add, natCast_one, natCast_zero] <;> omega) | fail) only [go_sem]) <;> rfl); (· exact hA); try (simp (maxSteps := 1000000) (disch := first | omega | (simp only [List.length_append, List.length_cons, List.length_nil, List.length_map, bitsOf_len, readB_len, Int.natCast_add, Int.natCast_succ, Nat.zero_add, natCast_one, natCast_zero] <;> omega) | fail) only [go_sem]))
  (repeat' (first
    | ((first | with_reducible refine aw_seq ?_ | with_reducible refine aw_region (aops_run ?_) | (with_reducible refine aw_regionD (fun _ => .p) mixed ?_ (dops_run ?_); (· kernel_rfl)) | (with_reducible refine aw_regionD (fun _ => .r) mixed ?_ (dops_run ?_); (· kernel_rfl)) | with_reducible refine aw_condK ?_ | with_reducible refine aw_skip ?_ | with_reducible refine aw_ret ?_ | with_reducible refine aw_exit ?_ | with_reducible refine aw_label ?_ | with_reducible refine aw_block ?_ | with_reducible refine aw_scope ?_ | with_reducible refine And.intro ?_ ?_) <;> (try (simp (maxSteps := 1000000) (disch := first | omega | (simp only [List.length_append, List.length_cons, List.length_nil, List.length_map, bitsOf_len, readB_len, Int.natCast_add, Int.natCast_succ, Nat.zero_add, natCast_one, natCast_zero] <;> omega) | fail) only [go_sem])))
    | ((first | with_reducible refine wantK_split (fun h => ?_) (fun h => ?_) | with_reducible refine condK_split (fun h => ?_) (fun h => ?_) | with_reducible refine pickV_split (fun h => ?_) (fun h => ?_)) <;> (try (simp (maxSteps := 1000000) (disch := first | omega | (simp only [List.length_append, List.length_cons, List.length_nil, List.length_map, bitsOf_len, readB_len, Int.natCast_add, Int.natCast_succ, Nat.zero_add, natCast_one, natCast_zero] <;> omega) | fail) only [go_sem] at h)) <;> (try (simp (maxSteps := 1000000) (disch := first | omega | (simp only [List.length_append, List.length_cons, List.length_nil, List.length_map, bitsOf_len, readB_len, Int.natCast_add, Int.natCast_succ, Nat.zero_add, natCast_one, natCast_zero] <;> omega) | fail) only [go_sem, h])))))
  ((first | with_reducible apply left_callf | with_reducible apply leftD_callf); (· with_reducible rfl); (· (simp (maxSteps := 1000000) (disch := first | omega | (simp only [List.length_append, List.length_cons, List.length_nil, List.length_map, bitsOf_len, readB_len, Int.natCast_add, Int.natCast_succ, Nat.zero_add, natCast_one, natCast_zero] <;> omega) | fail) only [go_sem]) <;> rfl); (· exact hB); try (simp (maxSteps := 1000000) (disch := first | omega | (simp only [List.length_append, List.length_cons, List.length_nil, List.length_map, bitsOf_len, readB_len, Int.natCast_add, Int.natCast_succ, Nat.zero_add, natCast_one, natCast_zero] <;> omega) | fail) only [go_sem]))
  (repeat' (first
    | ((first | with_reducible refine aw_seq ?_ | with_reducible refine aw_region (aops_run ?_) | (with_reducible refine aw_regionD (fun _ => .p) mixed ?_ (dops_run ?_); (· kernel_rfl)) | (with_reducible refine aw_regionD (fun _ => .r) mixed ?_ (dops_run ?_); (· kernel_rfl)) | with_reducible refine aw_condK ?_ | with_reducible refine aw_skip ?_ | with_reducible refine aw_ret ?_ | with_reducible refine aw_exit ?_ | with_reducible refine aw_label ?_ | with_reducible refine aw_block ?_ | with_reducible refine aw_scope ?_ | with_reducible refine And.intro ?_ ?_) <;> (try (simp (maxSteps := 1000000) (disch := first | omega | (simp only [List.length_append, List.length_cons, List.length_nil, List.length_map, bitsOf_len, readB_len, Int.natCast_add, Int.natCast_succ, Nat.zero_add, natCast_one, natCast_zero] <;> omega) | fail) only [go_sem])))
    | ((first | with_reducible refine wantK_split (fun h => ?_) (fun h => ?_) | with_reducible refine condK_split (fun h => ?_) (fun h => ?_) | with_reducible refine pickV_split (fun h => ?_) (fun h => ?_)) <;> (try (simp (maxSteps := 1000000) (disch := first | omega | (simp only [List.length_append, List.length_cons, List.length_nil, List.length_map, bitsOf_len, readB_len, Int.natCast_add, Int.natCast_succ, Nat.zero_add, natCast_one, natCast_zero] <;> omega) | fail) only [go_sem] at h)) <;> (try (simp (maxSteps := 1000000) (disch := first | omega | (simp only [List.length_append, List.length_cons, List.length_nil, List.length_map, bitsOf_len, readB_len, Int.natCast_add, Int.natCast_succ, Nat.zero_add, natCast_one, natCast_zero] <;> omega) | fail) only [go_sem, h])))))
  rfl

/-! ### the document's list -/
/-- A list in which each place stands where its key sends it. -/
structure Laid (K : Nat → Nat) (n : Nat) (D : List Int) : Prop where
  len : D.length = n
  at_ : ∀ p, p < n → ∃ q : Nat, D.getD p 0 = (q : Int) ∧ q < n ∧ posK K n q = p
theorem outF_at (K : Nat → Nat) (pl : List Int) (q : Nat) (hinj : ∀ t, t < pl.length → q < t → posK K pl.length t ≠ posK K pl.length q) : ∀ t, q < t → t ≤ pl.length → outF K pl t (posK K pl.length q) = pl.getD q 0
  | 0, h, _ => by omega
  | t + 1, h, hle => by
    simp only [outF]
    by_cases e : t = q
    · subst e; rw [if_pos rfl]
    · rw [if_neg (fun h2 => hinj t (by omega) (by omega) h2.symm)]
      exact outF_at K pl q hinj t (by omega) (by omega)
theorem cL_mono (K : Nat → Nat) (n : Nat) {a b : Nat} (h : a ≤ b) : cL K a n ≤ cL K b n := by
  obtain ⟨d, rfl⟩ := Nat.exists_eq_add_of_le h
  clear h
  induction d with
  | zero => exact Nat.le_refl _
  | succ d ih => have := cL_next K (a + d) n; rw [← Nat.add_assoc]; omega
theorem posK_inj (K : Nat → Nat) (n : Nat) {a b : Nat} (h : a < b) (hb : b < n) : posK K n a ≠ posK K n b := by
  unfold posK
  have h1 := cN_mono K (K a) (show a + 1 ≤ b by omega)
  simp only [cN, if_true] at h1
  by_cases e : K a = K b
  · rw [e] at h1 ⊢; omega
  · rcases Nat.lt_or_ge (K a) (K b) with hl | hl
    · have h2 := cL_next K (K a) n
      have h3 := cN_mono K (K a) (show a + 1 ≤ n by omega)
      simp only [cN, if_true] at h3
      have h4 := cL_mono K n (show K a + 1 ≤ K b by omega)
      omega
    · have h2 := cL_next K (K b) n
      have h3 := cN_mono K (K b) (show b + 1 ≤ n by omega)
      simp only [cN, if_true] at h3
      have h4 := cL_mono K n (show K b + 1 ≤ K a by omega)
      omega
theorem idL_get {n t : Nat} (h : t < n) : (idL n).getD t 0 = (t : Int) := by simp [idL, List.getD, h]
theorem stabG_at (K : Nat → Nat) {n q : Nat} (h : q < n) : (stabG K n).getD (posK K n q) 0 = (q : Int) := by
  have hlt := posK_lt K h
  have hl : (idL n).length = n := by simp [idL]
  have := outF_at K (idL n) q (fun t ht hqt => by rw [hl] at ht ⊢; exact (posK_inj K n hqt ht).symm) n h (by rw [hl]; exact Nat.le_refl _)
  rw [hl, idL_get h] at this
  unfold stabG
  rw [← this]
  simp [List.getD, hlt]
theorem stab_at (keys : List Int) {q : Nat} (h : q < keys.length) : (stabL keys).getD (posK (keyN keys) keys.length q) 0 = (q : Int) := stabG_at _ h
/-- Such a list is the one that Stable makes. -/
theorem laid_eqG {K : Nat → Nat} {n : Nat} {D : List Int} (h : Laid K n D) : D = stabG K n := by
  refine getD_ext (by rw [h.len]; simp [stabG]) (fun p hp => ?_)
  rw [h.len] at hp
  obtain ⟨q, h1, h2, h3⟩ := h.at_ p hp
  rw [h1, ← h3, stabG_at K h2]
theorem laid_eq {keys D : List Int} (h : Laid (keyN keys) keys.length D) : D = stabL keys := laid_eqG h
end Go.Proofs.Ytebegdnebjjnmaa.AM
