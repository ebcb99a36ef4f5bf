
/- Chapter 4: Rows, and Load. No condition but lengths that fit. -/
import Derived.Test.YtkfjldkememadaaV6
set_option linter.unusedVariables false
set_option linter.unusedSimpArgs false
set_option maxRecDepth 20000
namespace Go.Proofs.Ytkfjldkememadaa.AM
open Go Go.RowKit

@[go_sem] theorem zr_bits : List.mapM constIVcell [Value.int IntKind.i64 0, Value.slice none 0 0] = some [.int .i64 0, .sl 0 []] := rfl
@[go_sem] theorem zr_part : List.mapM constIVcell [Value.int IntKind.i64 0, Value.int IntKind.i64 0] = some [.int .i64 0, .int .i64 0] := rfl
@[go_sem] theorem zr_rank : List.mapM constIVcell [Value.int IntKind.i64 0, Value.slice none 0 0, Value.int IntKind.i64 0, Value.int IntKind.i64 0, Value.int IntKind.i64 0, Value.int IntKind.i64 0, Value.slice none 0 0] = some [.int .i64 0, .sl 0 [], .int .i64 0, .int .i64 0, .int .i64 0, .int .i64 0, .sl 0 []] := rfl
theorem stab_congr {K K' : Nat → Nat} {n : Nat} (h : ∀ i, i < n → K i = K' i) : stabG K n = stabG K' n := by
  refine stab_unique (stab_perm K n) (fun i a b hi ha hb => ?_)
  obtain ⟨h1, h2, h3⟩ := stabG_next K hi ha hb
  rw [← h a h1, ← h b h2]; exact h3
theorem rowK_congr {K K' : Nat → Nat} {b b' : Nat → Bool} {n : Nat} (h : ∀ i, i < n → K i = K' i) (hb : ∀ i, i < n → b i = b' i) : rowK K b n = rowK K' b' n := by
  unfold rowK
  rw [stab_congr h]
  refine List.map_congr_left (fun p hp => ?_)
  obtain ⟨q, h1, h2, _⟩ := stabG_who K' (List.mem_range.1 hp)
  rw [h1, Int.toNat_natCast, hb q h2]
def symsOf (rows : List (List Bool)) (n : Nat) : List Int := (List.range n).map fun i => ((levK (bR (fun k => rows.getD k []) n) rows.length i : Nat) : Int)
theorem symsOf_len (rows : List (List Bool)) (n : Nat) : (symsOf rows n).length = n := by simp [symsOf]
theorem symsOf_sy (rows : List (List Bool)) {n i : Nat} (h : i < n) : sy (symsOf rows n) i = levK (bR (fun k => rows.getD k []) n) rows.length i := by
  unfold sy symsOf
  simp [List.getD, h]
theorem symsOf_bit (rows : List (List Bool)) {n k i : Nat} (hk : k < rows.length) (h : i < n) : bitN rows.length (sy (symsOf rows n)) k i = bR (fun k => rows.getD k []) n k i := by
  unfold bitN
  rw [symsOf_sy rows h]
  have := levK_div (bR (fun k => rows.getD k []) n) (k + 1) (rows.length - 1 - k) i
  rw [show k + 1 + (rows.length - 1 - k) = rows.length by omega] at this
  rw [this, levK_bit]
theorem symsOf_ok {rows : List (List Bool)} {n : Nat} (h : ∀ r ∈ rows, r.length = n) : WOk (symsOf rows n) rows.length rows := by
  refine ⟨rfl, fun x hx => ?_, fun k hk => ?_⟩
  · unfold symsOf at hx
    obtain ⟨i, hi, rfl⟩ := List.mem_map.1 hx
    have := levK_lt (bR (fun k => rows.getD k []) n) rows.length i
    omega
  · rw [symsOf_len]
    have hr : (rows.getD k []).length = n := by
      have e : rows.getD k [] = rows[k] := by simp [List.getD, List.getElem?_eq_getElem hk]
      rw [e]; exact h _ (List.getElem_mem hk)
    rw [← row_of_rows (B := fun k => rows.getD k []) (n := n) (k := k) hr]
    refine rowK_congr (fun i hi => ?_) (fun i hi => (symsOf_bit rows hk hi).symm)
    exact levK_congr (fun j i hj hi => (symsOf_bit rows (by omega) hi).symm) i hi
def bitsL (rows : List (List Bool)) : IV := .sl 2 (rows.map bitsV)
theorem WRows_spec (n size : Int) (rows : List (List Bool)) (hr : rows.length ≤ 1000) : PCalls Try.prog 28 [waveV n size rows] (bitsL rows) := by
  refine PCalls.of_aw Try.func28 rfl (by unfold Callable; kernel_rfl) (by kernel_rfl) (by simp [Try.ntmps28]) ?_; rw [Try.ntmps28, Try.results28]; (simp (disch := first | exact dq | fail) only [go_sem, waveV])
  (repeat' (first
    | ((first | with_reducible (first | refine aw_seq ?_ | refine aw_region (aops_run ?_)) | (with_reducible refine aw_regionD (fun _ => .p) mixed ?_ (dops_run ?_); (· kernel_rfl)) | (with_reducible refine aw_regionD (fun _ => .r) mixed ?_ (dops_run ?_); (· kernel_rfl)) | with_reducible (first | refine aw_condK ?_ | refine aw_skip ?_ | refine aw_ret ?_ | refine aw_exit ?_ | refine aw_label ?_ | refine aw_block ?_ | refine aw_scope ?_ | refine And.intro ?_ ?_)) <;> (try (simp (disch := first | exact dq | fail) only [go_sem])))
    | (with_reducible (first | refine wantK_split (fun h => ?_) (fun h => ?_) | refine condK_split (fun h => ?_) (fun h => ?_) | refine pickV_split (fun h => ?_) (fun h => ?_)) <;> (try (simp (disch := first | exact dq | fail) only [go_sem] at h)) <;> (try (simp (disch := first | exact dq | fail) only [go_sem, h])))))
  refine aw_loop (α := Nat) (fun i => ⟨20, sl [(3, .msl 0 0 i i), (7, .iv (.sl 7 (rows.map rankV))), (8, .iv (.int .i64 rows.length)), (9, .iv (.int .i64 i))], [.row true 56 2 ((rows.take i).map bitsV)], 0⟩)
    (fun i => i ≤ rows.length) (fun i => rows.length - i) 0 (wk_by [2] ?_) (by omega) ?_
  · (simp (disch := first | exact dq | fail) only [go_sem])
  rintro i hi
  have htl : (rows.take i).length = i := by rw [List.length_take]; omega
  by_cases h : i < rows.length
  · have hc : (i : Int) < rows.length := by omega
    have hg : rows[i]? = some (rows.getD i []) := by simp [List.getD, List.getElem?_eq_getElem h]
    have ht : rows.take (i + 1) = rows.take i ++ [rows.getD i []] := by rw [List.take_add_one, hg]; rfl
    have hB := RBits_spec (rows.getD i [])
    (repeat' (first
    | ((first | with_reducible (first | refine aw_seq ?_ | refine aw_region (aops_run ?_)) | (with_reducible refine aw_regionD (fun _ => .p) mixed ?_ (dops_run ?_); (· kernel_rfl)) | (with_reducible refine aw_regionD (fun _ => .r) mixed ?_ (dops_run ?_); (· kernel_rfl)) | with_reducible (first | refine aw_condK ?_ | refine aw_skip ?_ | refine aw_ret ?_ | refine aw_exit ?_ | refine aw_label ?_ | refine aw_block ?_ | refine aw_scope ?_ | refine And.intro ?_ ?_)) <;> (try (simp (disch := first | exact dq | fail) only [go_sem, hc, hg, decide_true])))
    | (with_reducible (first | refine wantK_split (fun h => ?_) (fun h => ?_) | refine condK_split (fun h => ?_) (fun h => ?_) | refine pickV_split (fun h => ?_) (fun h => ?_)) <;> (try (simp (disch := first | exact dq | fail) only [go_sem] at h)) <;> (try (simp (disch := first | exact dq | fail) only [go_sem, h, hc, hg, decide_true])))))
    all_goals (try omega)
    ((first | with_reducible apply left_callf | with_reducible apply leftD_callf | with_reducible apply leftF_callf); (· with_reducible rfl); (· (simp (disch := first | exact dq | fail) only [go_sem]) <;> rfl); (· exact hB); try (simp (disch := first | exact dq | fail) only [go_sem]))
    (repeat' (first
    | ((first | with_reducible (first | refine aw_seq ?_ | refine aw_region (aops_run ?_)) | (with_reducible refine aw_regionD (fun _ => .p) mixed ?_ (dops_run ?_); (· kernel_rfl)) | (with_reducible refine aw_regionD (fun _ => .r) mixed ?_ (dops_run ?_); (· kernel_rfl)) | with_reducible (first | refine aw_condK ?_ | refine aw_skip ?_ | refine aw_ret ?_ | refine aw_exit ?_ | refine aw_label ?_ | refine aw_block ?_ | refine aw_scope ?_ | refine And.intro ?_ ?_)) <;> (try (simp (disch := first | exact dq | fail) only [go_sem, htl])))
    | (with_reducible (first | refine wantK_split (fun h => ?_) (fun h => ?_) | refine condK_split (fun h => ?_) (fun h => ?_) | refine pickV_split (fun h => ?_) (fun h => ?_)) <;> (try (simp (disch := first | exact dq | fail) only [go_sem] at h)) <;> (try (simp (disch := first | exact dq | fail) only [go_sem, h, htl])))))
    all_goals (try omega)
    refine ⟨i + 1, by omega, wk_by [0] ?_, by omega⟩
    (simp (disch := first | exact dq | fail) only [go_sem, ht, List.map_append])
  · obtain rfl : i = rows.length := by omega
    have hc : ¬ ((rows.length : Int) < rows.length) := by omega
    rw [List.take_length]
    (repeat' (first
    | ((first | with_reducible (first | refine aw_seq ?_ | refine aw_region (aops_run ?_)) | (with_reducible refine aw_regionD (fun _ => .p) mixed ?_ (dops_run ?_); (· kernel_rfl)) | (with_reducible refine aw_regionD (fun _ => .r) mixed ?_ (dops_run ?_); (· kernel_rfl)) | with_reducible (first | refine aw_condK ?_ | refine aw_skip ?_ | refine aw_ret ?_ | refine aw_exit ?_ | refine aw_label ?_ | refine aw_block ?_ | refine aw_scope ?_ | refine And.intro ?_ ?_)) <;> (try (simp (disch := first | exact dq | fail) only [go_sem, hc, decide_false])))
    | (with_reducible (first | refine wantK_split (fun h => ?_) (fun h => ?_) | refine condK_split (fun h => ?_) (fun h => ?_) | refine pickV_split (fun h => ?_) (fun h => ?_)) <;> (try (simp (disch := first | exact dq | fail) only [go_sem] at h)) <;> (try (simp (disch := first | exact dq | fail) only [go_sem, h, hc, decide_false])))))
    all_goals (try omega)
    all_goals (try (rw [List.take_of_length_le (by simp)]))
    all_goals rfl
def badL (n size : Int) (k : Nat) : Prop := n < 0 ∨ 16777216 < n ∨ size < 1 ∨ 65536 < size ∨ (k : Int) ≠ widN (size - 1)
set_option maxHeartbeats 1000000 in
theorem Load_no1 (n size : Int) (rows : List (List Bool)) (h : badL n size rows.length) : PCalls Try.prog 35 [.int .i64 n, .int .i64 size, bitsL rows] (.tup [waveV 0 0 [], .int .i64 10]) := by
  unfold badL at h
  by_cases c1 : n < 0
  · refine PCalls.of_awS Try.func35 rfl (by unfold Callable; kernel_rfl) (by kernel_rfl) (by simp [Try.ntmps35]) ?_; rw [Try.ntmps35, Try.results35]; (simp (maxSteps := 1000000) (disch := first | exact dq | fail) only [go_sem, waveV, bitsL])
    (repeat' (first
    | ((first | with_reducible (first | refine aw_seq ?_ | refine aw_region (aops_run ?_)) | (with_reducible refine aw_regionD (fun _ => .p) mixed ?_ (dops_run ?_); (· kernel_rfl)) | (with_reducible refine aw_regionD (fun _ => .r) mixed ?_ (dops_run ?_); (· kernel_rfl)) | with_reducible (first | refine aw_condK ?_ | refine aw_skip ?_ | refine aw_ret ?_ | refine aw_exit ?_ | refine aw_label ?_ | refine aw_block ?_ | refine aw_scope ?_ | refine And.intro ?_ ?_)) <;> (try (simp (maxSteps := 1000000) (disch := first | exact dq | fail) only [go_sem, c1, decide_true])))
    | (with_reducible (first | refine wantK_split (fun h => ?_) (fun h => ?_) | refine condK_split (fun h => ?_) (fun h => ?_) | refine pickV_split (fun h => ?_) (fun h => ?_)) <;> (try (simp (maxSteps := 1000000) (disch := first | exact dq | fail) only [go_sem] at h)) <;> (try (simp (maxSteps := 1000000) (disch := first | exact dq | fail) only [go_sem, h, c1, decide_true])))))
    all_goals (try omega)
    exact sq_wave 10
  by_cases c2 : n > 16777216
  · refine PCalls.of_awS Try.func35 rfl (by unfold Callable; kernel_rfl) (by kernel_rfl) (by simp [Try.ntmps35]) ?_; rw [Try.ntmps35, Try.results35]; (simp (maxSteps := 1000000) (disch := first | exact dq | fail) only [go_sem, waveV, bitsL])
    (repeat' (first
    | ((first | with_reducible (first | refine aw_seq ?_ | refine aw_region (aops_run ?_)) | (with_reducible refine aw_regionD (fun _ => .p) mixed ?_ (dops_run ?_); (· kernel_rfl)) | (with_reducible refine aw_regionD (fun _ => .r) mixed ?_ (dops_run ?_); (· kernel_rfl)) | with_reducible (first | refine aw_condK ?_ | refine aw_skip ?_ | refine aw_ret ?_ | refine aw_exit ?_ | refine aw_label ?_ | refine aw_block ?_ | refine aw_scope ?_ | refine And.intro ?_ ?_)) <;> (try (simp (maxSteps := 1000000) (disch := first | exact dq | fail) only [go_sem, c1, c2, decide_true, decide_false])))
    | (with_reducible (first | refine wantK_split (fun h => ?_) (fun h => ?_) | refine condK_split (fun h => ?_) (fun h => ?_) | refine pickV_split (fun h => ?_) (fun h => ?_)) <;> (try (simp (maxSteps := 1000000) (disch := first | exact dq | fail) only [go_sem] at h)) <;> (try (simp (maxSteps := 1000000) (disch := first | exact dq | fail) only [go_sem, h, c1, c2, decide_true, decide_false])))))
    all_goals (try omega)
    exact sq_wave 10
  by_cases c3 : size < 1
  · refine PCalls.of_awS Try.func35 rfl (by unfold Callable; kernel_rfl) (by kernel_rfl) (by simp [Try.ntmps35]) ?_; rw [Try.ntmps35, Try.results35]; (simp (maxSteps := 1000000) (disch := first | exact dq | fail) only [go_sem, waveV, bitsL])
    (repeat' (first
    | ((first | with_reducible (first | refine aw_seq ?_ | refine aw_region (aops_run ?_)) | (with_reducible refine aw_regionD (fun _ => .p) mixed ?_ (dops_run ?_); (· kernel_rfl)) | (with_reducible refine aw_regionD (fun _ => .r) mixed ?_ (dops_run ?_); (· kernel_rfl)) | with_reducible (first | refine aw_condK ?_ | refine aw_skip ?_ | refine aw_ret ?_ | refine aw_exit ?_ | refine aw_label ?_ | refine aw_block ?_ | refine aw_scope ?_ | refine And.intro ?_ ?_)) <;> (try (simp (maxSteps := 1000000) (disch := first | exact dq | fail) only [go_sem, c1, c2, c3, decide_true, decide_false])))
    | (with_reducible (first | refine wantK_split (fun h => ?_) (fun h => ?_) | refine condK_split (fun h => ?_) (fun h => ?_) | refine pickV_split (fun h => ?_) (fun h => ?_)) <;> (try (simp (maxSteps := 1000000) (disch := first | exact dq | fail) only [go_sem] at h)) <;> (try (simp (maxSteps := 1000000) (disch := first | exact dq | fail) only [go_sem, h, c1, c2, c3, decide_true, decide_false])))))
    all_goals (try omega)
    exact sq_wave 10
  by_cases c4 : size > 65536
  · refine PCalls.of_awS Try.func35 rfl (by unfold Callable; kernel_rfl) (by kernel_rfl) (by simp [Try.ntmps35]) ?_; rw [Try.ntmps35, Try.results35]; (simp (maxSteps := 1000000) (disch := first | exact dq | fail) only [go_sem, waveV, bitsL])
    (repeat' (first
    | ((first | with_reducible (first | refine aw_seq ?_ | refine aw_region (aops_run ?_)) | (with_reducible refine aw_regionD (fun _ => .p) mixed ?_ (dops_run ?_); (· kernel_rfl)) | (with_reducible refine aw_regionD (fun _ => .r) mixed ?_ (dops_run ?_); (· kernel_rfl)) | with_reducible (first | refine aw_condK ?_ | refine aw_skip ?_ | refine aw_ret ?_ | refine aw_exit ?_ | refine aw_label ?_ | refine aw_block ?_ | refine aw_scope ?_ | refine And.intro ?_ ?_)) <;> (try (simp (maxSteps := 1000000) (disch := first | exact dq | fail) only [go_sem, c1, c2, c3, c4, decide_true, decide_false])))
    | (with_reducible (first | refine wantK_split (fun h => ?_) (fun h => ?_) | refine condK_split (fun h => ?_) (fun h => ?_) | refine pickV_split (fun h => ?_) (fun h => ?_)) <;> (try (simp (maxSteps := 1000000) (disch := first | exact dq | fail) only [go_sem] at h)) <;> (try (simp (maxSteps := 1000000) (disch := first | exact dq | fail) only [go_sem, h, c1, c2, c3, c4, decide_true, decide_false])))))
    all_goals (try omega)
    exact sq_wave 10
  have c5 : ¬ ((rows.length : Int) = (widN (size - 1) : Nat)) := by omega
  have hw := width_spec size (by omega) (by omega)
  refine PCalls.of_awS Try.func35 rfl (by unfold Callable; kernel_rfl) (by kernel_rfl) (by simp [Try.ntmps35]) ?_; rw [Try.ntmps35, Try.results35]; (simp (maxSteps := 1000000) (disch := first | exact dq | fail) only [go_sem, waveV, bitsL])
  (repeat' (first
    | ((first | with_reducible (first | refine aw_seq ?_ | refine aw_region (aops_run ?_)) | (with_reducible refine aw_regionD (fun _ => .p) mixed ?_ (dops_run ?_); (· kernel_rfl)) | (with_reducible refine aw_regionD (fun _ => .r) mixed ?_ (dops_run ?_); (· kernel_rfl)) | with_reducible (first | refine aw_condK ?_ | refine aw_skip ?_ | refine aw_ret ?_ | refine aw_exit ?_ | refine aw_label ?_ | refine aw_block ?_ | refine aw_scope ?_ | refine And.intro ?_ ?_)) <;> (try (simp (maxSteps := 1000000) (disch := first | exact dq | fail) only [go_sem, c1, c2, c3, c4, decide_true, decide_false])))
    | (with_reducible (first | refine wantK_split (fun h => ?_) (fun h => ?_) | refine condK_split (fun h => ?_) (fun h => ?_) | refine pickV_split (fun h => ?_) (fun h => ?_)) <;> (try (simp (maxSteps := 1000000) (disch := first | exact dq | fail) only [go_sem] at h)) <;> (try (simp (maxSteps := 1000000) (disch := first | exact dq | fail) only [go_sem, h, c1, c2, c3, c4, decide_true, decide_false])))))
  all_goals (try omega)
  ((first | with_reducible apply left_callf | with_reducible apply leftD_callf | with_reducible apply leftF_callf); (· with_reducible rfl); (· (simp (maxSteps := 1000000) (disch := first | exact dq | fail) only [go_sem]) <;> rfl); (· exact hw); try (simp (maxSteps := 1000000) (disch := first | exact dq | fail) only [go_sem]))
  (repeat' (first
    | ((first | with_reducible (first | refine aw_seq ?_ | refine aw_region (aops_run ?_)) | (with_reducible refine aw_regionD (fun _ => .p) mixed ?_ (dops_run ?_); (· kernel_rfl)) | (with_reducible refine aw_regionD (fun _ => .r) mixed ?_ (dops_run ?_); (· kernel_rfl)) | with_reducible (first | refine aw_condK ?_ | refine aw_skip ?_ | refine aw_ret ?_ | refine aw_exit ?_ | refine aw_label ?_ | refine aw_block ?_ | refine aw_scope ?_ | refine And.intro ?_ ?_)) <;> (try (simp (maxSteps := 1000000) (disch := first | exact dq | fail) only [go_sem, c5, decide_true, decide_false, Bool.not_false])))
    | (with_reducible (first | refine wantK_split (fun h => ?_) (fun h => ?_) | refine condK_split (fun h => ?_) (fun h => ?_) | refine pickV_split (fun h => ?_) (fun h => ?_)) <;> (try (simp (maxSteps := 1000000) (disch := first | exact dq | fail) only [go_sem] at h)) <;> (try (simp (maxSteps := 1000000) (disch := first | exact dq | fail) only [go_sem, h, c5, decide_true, decide_false, Bool.not_false])))))
  all_goals (try omega)
  exact sq_wave 10
def okTo (rows : List (List Bool)) (n k : Nat) : Prop := ∀ j, j < k → (rows.getD j []).length = n
set_option maxHeartbeats 4000000 in
theorem Load_in (n : Nat) (size : Int) (rows : List (List Bool)) (h : ¬ badL n size rows.length) (hn : n ≤ 1000000) :
    PCalls Try.prog 35 [.int .i64 n, .int .i64 size, bitsL rows] (if (∀ r ∈ rows, r.length = n) ∧ (symsOf rows n).any (offK size) = false then .tup [waveV n size rows, .int .i64 0] else .tup [waveV 0 0 [], .int .i64 10]) := by
  unfold badL at h
  have c1 : ¬ ((n : Int) < 0) := by omega
  have c2 : ¬ ((n : Int) > 16777216) := by omega
  have c3 : ¬ (size < 1) := by omega
  have c4 : ¬ (size > 65536) := by omega
  have c5 : (rows.length : Int) = (widN (size - 1) : Nat) := by omega
  have hw := width_spec size (by omega) (by omega)
  have hW0 := widN_fits (n := size - 1) (by omega) (by omega) (w := 17) (by decide)
  have hWle : rows.length ≤ 17 := by have := hW0.2 (by omega); omega
  have hall : okTo rows n rows.length → ∀ r ∈ rows, r.length = n := fun h r hr => by
    obtain ⟨j, hj, rfl⟩ := List.getElem_of_mem hr
    have := h j hj
    simpa [List.getD, List.getElem?_eq_getElem hj] using this
  have hall2 : (∀ r ∈ rows, r.length = n) → okTo rows n rows.length := fun h j hj => by
    have := h _ (List.getElem_mem hj)
    simpa [List.getD, List.getElem?_eq_getElem hj] using this
  refine PCalls.of_awS Try.func35 rfl (by unfold Callable; kernel_rfl) (by kernel_rfl) (by simp [Try.ntmps35]) ?_; rw [Try.ntmps35, Try.results35]; (simp (maxSteps := 1000000) (disch := first | exact dq | fail) only [go_sem, bitsL])
  (repeat' (first
    | ((first | with_reducible (first | refine aw_seq ?_ | refine aw_region (aops_run ?_)) | (with_reducible refine aw_regionD (fun _ => .p) mixed ?_ (dops_run ?_); (· kernel_rfl)) | (with_reducible refine aw_regionD (fun _ => .r) mixed ?_ (dops_run ?_); (· kernel_rfl)) | with_reducible (first | refine aw_condK ?_ | refine aw_skip ?_ | refine aw_ret ?_ | refine aw_exit ?_ | refine aw_label ?_ | refine aw_block ?_ | refine aw_scope ?_ | refine And.intro ?_ ?_)) <;> (try (simp (maxSteps := 1000000) (disch := first | exact dq | fail) only [go_sem, c1, c2, c3, c4, decide_true, decide_false])))
    | (with_reducible (first | refine wantK_split (fun h => ?_) (fun h => ?_) | refine condK_split (fun h => ?_) (fun h => ?_) | refine pickV_split (fun h => ?_) (fun h => ?_)) <;> (try (simp (maxSteps := 1000000) (disch := first | exact dq | fail) only [go_sem] at h)) <;> (try (simp (maxSteps := 1000000) (disch := first | exact dq | fail) only [go_sem, h, c1, c2, c3, c4, decide_true, decide_false])))))
  all_goals (try omega)
  ((first | with_reducible apply left_callf | with_reducible apply leftD_callf | with_reducible apply leftF_callf); (· with_reducible rfl); (· (simp (maxSteps := 1000000) (disch := first | exact dq | fail) only [go_sem]) <;> rfl); (· exact hw); try (simp (maxSteps := 1000000) (disch := first | exact dq | fail) only [go_sem]))
  (repeat' (first
    | ((first | with_reducible (first | refine aw_seq ?_ | refine aw_region (aops_run ?_)) | (with_reducible refine aw_regionD (fun _ => .p) mixed ?_ (dops_run ?_); (· kernel_rfl)) | (with_reducible refine aw_regionD (fun _ => .r) mixed ?_ (dops_run ?_); (· kernel_rfl)) | with_reducible (first | refine aw_condK ?_ | refine aw_skip ?_ | refine aw_ret ?_ | refine aw_exit ?_ | refine aw_label ?_ | refine aw_block ?_ | refine aw_scope ?_ | refine And.intro ?_ ?_)) <;> (try (simp (maxSteps := 1000000) (disch := first | exact dq | fail) only [go_sem, c5, eq_self, decide_true, decide_false, Bool.not_true])))
    | (with_reducible (first | refine wantK_split (fun h => ?_) (fun h => ?_) | refine condK_split (fun h => ?_) (fun h => ?_) | refine pickV_split (fun h => ?_) (fun h => ?_)) <;> (try (simp (maxSteps := 1000000) (disch := first | exact dq | fail) only [go_sem] at h)) <;> (try (simp (maxSteps := 1000000) (disch := first | exact dq | fail) only [go_sem, h, c5, eq_self, decide_true, decide_false, Bool.not_true])))))
  all_goals (try omega)
  refine aw_postE (β := Unit) (fun _ => ⟨71, sl [(0, .iv (.int .i64 n)), (1, .iv (.int .i64 size)), (6, .mp 0 0), (7, .iv (.int .i64 0)), (8, .mp 1 0)],
      [.var 29 [.iv (.int .i64 0), .iv (.int .i64 0), .nilsl], .var 29 [.iv (.int .i64 n), .iv (.int .i64 size), .msl 2 0 rows.length rows.length], .row true 69 7 (rows.map rankV)], 0⟩)
    (fun _ => okTo rows n rows.length) ?_ ?_
  · refine aw_loop (α := Nat) (fun k => ⟨71, sl [(0, .iv (.int .i64 n)), (1, .iv (.int .i64 size)), (6, .mp 0 0), (7, .iv (.int .i64 0)), (8, .mp 1 0), (38, .iv (.sl 2 (rows.map bitsV))), (39, .iv (.int .i64 rows.length)), (40, .iv (.int .i64 k))],
      [.var 29 [.iv (.int .i64 0), .iv (.int .i64 0), .nilsl], .var 29 [.iv (.int .i64 n), .iv (.int .i64 size), .msl 2 0 k k], .row true 69 7 ((rows.take k).map rankV)], 0⟩)
      (fun k => k ≤ rows.length ∧ okTo rows n k) (fun k => rows.length - k) 0 ((wk_ownc 69 7 1 2 rfl rfl).trans (wk_by [0, 1, 2] ?_)) ⟨by omega, fun j hj => by omega⟩ ?_
    · (simp (maxSteps := 1000000) (disch := first | exact dq | fail) only [go_sem])
      rw [c5]
    rintro k ⟨hk, hok⟩
    have htl : (rows.take k).length = k := by rw [List.length_take]; omega
    by_cases g : k < rows.length
    · have hc : (k : Int) < rows.length := by omega
      have hg : rows[k]? = some (rows.getD k []) := by simp [List.getD, List.getElem?_eq_getElem g]
      have ht : rows.take (k + 1) = rows.take k ++ [rows.getD k []] := by rw [List.take_add_one, hg]; rfl
      have hL := Len_spec (rows.getD k [])
      by_cases e : (rows.getD k []).length = n
      · have hce : ((rows.getD k []).length : Int) = (n : Int) := by omega
        have hB := RNew_spec (rows.getD k []) (by omega)
        (repeat' (first
    | ((first | with_reducible (first | refine aw_seq ?_ | refine aw_region (aops_run ?_)) | (with_reducible refine aw_regionD (fun _ => .p) mixed ?_ (dops_run ?_); (· kernel_rfl)) | (with_reducible refine aw_regionD (fun _ => .r) mixed ?_ (dops_run ?_); (· kernel_rfl)) | with_reducible (first | refine aw_condK ?_ | refine aw_skip ?_ | refine aw_ret ?_ | refine aw_exit ?_ | refine aw_label ?_ | refine aw_block ?_ | refine aw_scope ?_ | refine And.intro ?_ ?_)) <;> (try (simp (maxSteps := 1000000) (disch := first | exact dq | fail) only [go_sem, hc, hg, decide_true])))
    | (with_reducible (first | refine wantK_split (fun h => ?_) (fun h => ?_) | refine condK_split (fun h => ?_) (fun h => ?_) | refine pickV_split (fun h => ?_) (fun h => ?_)) <;> (try (simp (maxSteps := 1000000) (disch := first | exact dq | fail) only [go_sem] at h)) <;> (try (simp (maxSteps := 1000000) (disch := first | exact dq | fail) only [go_sem, h, hc, hg, decide_true])))))
        all_goals (try omega)
        ((first | with_reducible apply left_callf | with_reducible apply leftD_callf | with_reducible apply leftF_callf); (· with_reducible rfl); (· (simp (maxSteps := 1000000) (disch := first | exact dq | fail) only [go_sem]) <;> rfl); (· exact hL); try (simp (maxSteps := 1000000) (disch := first | exact dq | fail) only [go_sem]))
        (repeat' (first
    | ((first | with_reducible (first | refine aw_seq ?_ | refine aw_region (aops_run ?_)) | (with_reducible refine aw_regionD cwG mixed ?_ (dops_runF ?_); (· kernel_rfl)) | with_reducible (first | refine aw_condK ?_ | refine aw_skip ?_ | refine aw_ret ?_ | refine aw_exit ?_ | refine aw_label ?_ | refine aw_block ?_ | refine aw_scope ?_ | refine And.intro ?_ ?_)) <;> (try (simp (maxSteps := 1000000) (disch := first | exact dq | fail) only [go_sem, hce, htl, eq_self, decide_true, decide_false, Bool.not_true])))
    | (with_reducible (first | refine wantK_split (fun h => ?_) (fun h => ?_) | refine condK_split (fun h => ?_) (fun h => ?_) | refine pickV_split (fun h => ?_) (fun h => ?_)) <;> (try (simp (maxSteps := 1000000) (disch := first | exact dq | fail) only [go_sem] at h)) <;> (try (simp (maxSteps := 1000000) (disch := first | exact dq | fail) only [go_sem, h, hce, htl, eq_self, decide_true, decide_false, Bool.not_true])))))
        all_goals (try omega)
        ((first | with_reducible apply left_callf | with_reducible apply leftD_callf | with_reducible apply leftF_callf); (· with_reducible rfl); (· (simp (maxSteps := 1000000) (disch := first | exact dq | fail) only [go_sem]) <;> rfl); (· exact hB); try (simp (maxSteps := 1000000) (disch := first | exact dq | fail) only [go_sem]))
        refine ⟨by omega, ?_⟩
        (repeat' (first
    | ((first | with_reducible (first | refine aw_seq ?_ | refine aw_region (aops_run ?_)) | (with_reducible refine aw_regionD (fun _ => .p) mixed ?_ (dops_run ?_); (· kernel_rfl)) | (with_reducible refine aw_regionD (fun _ => .r) mixed ?_ (dops_run ?_); (· kernel_rfl)) | with_reducible (first | refine aw_condK ?_ | refine aw_skip ?_ | refine aw_ret ?_ | refine aw_exit ?_ | refine aw_label ?_ | refine aw_block ?_ | refine aw_scope ?_ | refine And.intro ?_ ?_)) <;> (try (simp (maxSteps := 1000000) (disch := first | exact dq | fail) only [go_sem])))
    | (with_reducible (first | refine wantK_split (fun h => ?_) (fun h => ?_) | refine condK_split (fun h => ?_) (fun h => ?_) | refine pickV_split (fun h => ?_) (fun h => ?_)) <;> (try (simp (maxSteps := 1000000) (disch := first | exact dq | fail) only [go_sem] at h)) <;> (try (simp (maxSteps := 1000000) (disch := first | exact dq | fail) only [go_sem, h])))))
        refine ⟨k + 1, ⟨by omega, fun j hj => ?_⟩, wk_by [0, 1, 2] ?_, by omega⟩
        · by_cases ej : j = k
          · subst ej; exact e
          · exact hok j (by omega)
        · (simp (maxSteps := 1000000) (disch := first | exact dq | fail) only [go_sem, ht, List.map_append])
      · have hce : ¬ (((rows.getD k []).length : Int) = (n : Int)) := by omega
        rw [if_neg (fun hh => e (hall2 hh.1 k g))]
        unfold waveV
        (repeat' (first
    | ((first | with_reducible (first | refine aw_seq ?_ | refine aw_region (aops_run ?_)) | (with_reducible refine aw_regionD (fun _ => .p) mixed ?_ (dops_run ?_); (· kernel_rfl)) | (with_reducible refine aw_regionD (fun _ => .r) mixed ?_ (dops_run ?_); (· kernel_rfl)) | with_reducible (first | refine aw_condK ?_ | refine aw_skip ?_ | refine aw_ret ?_ | refine aw_exit ?_ | refine aw_label ?_ | refine aw_block ?_ | refine aw_scope ?_ | refine And.intro ?_ ?_)) <;> (try (simp (maxSteps := 1000000) (disch := first | exact dq | fail) only [go_sem, hc, hg, decide_true])))
    | (with_reducible (first | refine wantK_split (fun h => ?_) (fun h => ?_) | refine condK_split (fun h => ?_) (fun h => ?_) | refine pickV_split (fun h => ?_) (fun h => ?_)) <;> (try (simp (maxSteps := 1000000) (disch := first | exact dq | fail) only [go_sem] at h)) <;> (try (simp (maxSteps := 1000000) (disch := first | exact dq | fail) only [go_sem, h, hc, hg, decide_true])))))
        all_goals (try omega)
        ((first | with_reducible apply left_callf | with_reducible apply leftD_callf | with_reducible apply leftF_callf); (· with_reducible rfl); (· (simp (maxSteps := 1000000) (disch := first | exact dq | fail) only [go_sem]) <;> rfl); (· exact hL); try (simp (maxSteps := 1000000) (disch := first | exact dq | fail) only [go_sem]))
        (repeat' (first
    | ((first | with_reducible (first | refine aw_seq ?_ | refine aw_region (aops_run ?_)) | (with_reducible refine aw_regionD (fun _ => .p) mixed ?_ (dops_run ?_); (· kernel_rfl)) | (with_reducible refine aw_regionD (fun _ => .r) mixed ?_ (dops_run ?_); (· kernel_rfl)) | with_reducible (first | refine aw_condK ?_ | refine aw_skip ?_ | refine aw_ret ?_ | refine aw_exit ?_ | refine aw_label ?_ | refine aw_block ?_ | refine aw_scope ?_ | refine And.intro ?_ ?_)) <;> (try (simp (maxSteps := 1000000) (disch := first | exact dq | fail) only [go_sem, hce, eq_self, decide_true, decide_false, Bool.not_false])))
    | (with_reducible (first | refine wantK_split (fun h => ?_) (fun h => ?_) | refine condK_split (fun h => ?_) (fun h => ?_) | refine pickV_split (fun h => ?_) (fun h => ?_)) <;> (try (simp (maxSteps := 1000000) (disch := first | exact dq | fail) only [go_sem] at h)) <;> (try (simp (maxSteps := 1000000) (disch := first | exact dq | fail) only [go_sem, h, hce, eq_self, decide_true, decide_false, Bool.not_false])))))
        all_goals (try omega)
        exact sq_wave 10
    · obtain rfl : k = rows.length := by omega
      have hc : ¬ ((rows.length : Int) < rows.length) := by omega
      rw [List.take_length]
      have hlm : List.take rows.length (rows.map rankV) = rows.map rankV := List.take_of_length_le (by simp)
      (repeat' (first
    | ((first | with_reducible (first | refine aw_seq ?_ | refine aw_region (aops_run ?_)) | (with_reducible refine aw_regionD (fun _ => .p) mixed ?_ (dops_run ?_); (· kernel_rfl)) | (with_reducible refine aw_regionD (fun _ => .r) mixed ?_ (dops_run ?_); (· kernel_rfl)) | with_reducible (first | refine aw_condK ?_ | refine aw_skip ?_ | refine aw_ret ?_ | refine aw_exit ?_ | refine aw_label ?_ | refine aw_block ?_ | refine aw_scope ?_ | refine And.intro ?_ ?_)) <;> (try (simp (maxSteps := 1000000) (disch := first | exact dq | fail) only [go_sem, hc, decide_false])))
    | (with_reducible (first | refine wantK_split (fun h => ?_) (fun h => ?_) | refine condK_split (fun h => ?_) (fun h => ?_) | refine pickV_split (fun h => ?_) (fun h => ?_)) <;> (try (simp (maxSteps := 1000000) (disch := first | exact dq | fail) only [go_sem] at h)) <;> (try (simp (maxSteps := 1000000) (disch := first | exact dq | fail) only [go_sem, h, hc, decide_false])))))
      all_goals (try omega)
      refine ⟨(), hok, wk_by [0, 1, 2] ?_⟩
      (simp (maxSteps := 1000000) (disch := first | exact dq | fail) only [go_sem])
  · rintro _ hok
    have ha := hall hok
    have hok2 := symsOf_ok ha
    have hL := WList_spec hok2 size (by omega) (by rw [symsOf_len]; omega)
    have hsl := symsOf_len rows n
    rw [hsl] at hL
    have hlm : List.take rows.length (rows.map rankV) = rows.map rankV := List.take_of_length_le (by simp)
    unfold waveV at hL ⊢
    (repeat' (first
    | ((first | with_reducible (first | refine aw_seq ?_ | refine aw_region (aops_run ?_)) | (with_reducible refine aw_regionD (fun _ => .p) mixed ?_ (dops_run ?_); (· kernel_rfl)) | (with_reducible refine aw_regionD (fun _ => .r) mixed ?_ (dops_run ?_); (· kernel_rfl)) | with_reducible (first | refine aw_condK ?_ | refine aw_skip ?_ | refine aw_ret ?_ | refine aw_exit ?_ | refine aw_label ?_ | refine aw_block ?_ | refine aw_scope ?_ | refine And.intro ?_ ?_)) <;> (try (simp (maxSteps := 1000000) (disch := first | exact dq | fail) only [go_sem])))
    | (with_reducible (first | refine wantK_split (fun h => ?_) (fun h => ?_) | refine condK_split (fun h => ?_) (fun h => ?_) | refine pickV_split (fun h => ?_) (fun h => ?_)) <;> (try (simp (maxSteps := 1000000) (disch := first | exact dq | fail) only [go_sem] at h)) <;> (try (simp (maxSteps := 1000000) (disch := first | exact dq | fail) only [go_sem, h])))))
    ((with_reducible apply left_callfF); (· with_reducible rfl); (· (simp (maxSteps := 1000000) (disch := first | exact dq | fail) only [go_sem]) <;> rfl); (· exact hL); try (simp (maxSteps := 1000000) (disch := first | exact dq | fail) only [go_sem]))
    (repeat' (first
    | ((first | with_reducible (first | refine aw_seq ?_ | refine aw_region (aops_run ?_)) | (with_reducible refine aw_regionD (fun _ => .p) mixed ?_ (dops_run ?_); (· kernel_rfl)) | (with_reducible refine aw_regionD (fun _ => .r) mixed ?_ (dops_run ?_); (· kernel_rfl)) | with_reducible (first | refine aw_condK ?_ | refine aw_skip ?_ | refine aw_ret ?_ | refine aw_exit ?_ | refine aw_label ?_ | refine aw_block ?_ | refine aw_scope ?_ | refine And.intro ?_ ?_)) <;> (try (simp (maxSteps := 1000000) (disch := first | exact dq | fail) only [go_sem])))
    | (with_reducible (first | refine wantK_split (fun h => ?_) (fun h => ?_) | refine condK_split (fun h => ?_) (fun h => ?_) | refine pickV_split (fun h => ?_) (fun h => ?_)) <;> (try (simp (maxSteps := 1000000) (disch := first | exact dq | fail) only [go_sem] at h)) <;> (try (simp (maxSteps := 1000000) (disch := first | exact dq | fail) only [go_sem, h])))))
    generalize hl : symsOf rows n = l at *
    clear hL hok2
    refine aw_loop (α := Nat) (fun i => ⟨71, sl [(6, .mp 0 0), (7, .iv (.int .i64 0)), (8, .mp 1 0), (58, .iv (inl l)), (59, .iv (.int .i64 l.length)), (60, .iv (.int .i64 i))],
      [.var 29 [.iv (.int .i64 0), .iv (.int .i64 0), .nilsl], .var 29 [.iv (.int .i64 n), .iv (.int .i64 size), .msl 2 0 rows.length rows.length], .row false 69 7 (rows.map rankV)], 0⟩)
      (fun i => i ≤ l.length ∧ ∀ j, j < i → offK size (l.getD j 0) = false) (fun i => l.length - i) 0 (wk_by [0, 1, 2] ?_) ⟨by omega, fun j hj => by omega⟩ ?_
    · (simp (maxSteps := 1000000) (disch := first | exact dq | fail) only [go_sem])
    rintro i ⟨hi, hno⟩
    by_cases g : i < l.length
    · have hc : (i : Int) < l.length := by omega
      have hI := is_spec n size rows (l.getD i 0)
      unfold waveV at hI
      cases e : offK size (l.getD i 0) with
      | false =>
        have e' := e
        unfold offK at e'
        rw [Bool.or_eq_false_iff, decide_eq_false_iff_not, decide_eq_false_iff_not] at e'
        rw [decide_eq_true (show 0 ≤ l.getD i 0 by omega), decide_eq_true (show l.getD i 0 < size by omega)] at hI
        (repeat' (first
    | ((first | with_reducible (first | refine aw_seq ?_ | refine aw_region (aops_run ?_)) | (with_reducible refine aw_regionD (fun _ => .p) mixed ?_ (dops_run ?_); (· kernel_rfl)) | (with_reducible refine aw_regionD (fun _ => .r) mixed ?_ (dops_run ?_); (· kernel_rfl)) | with_reducible (first | refine aw_condK ?_ | refine aw_skip ?_ | refine aw_ret ?_ | refine aw_exit ?_ | refine aw_label ?_ | refine aw_block ?_ | refine aw_scope ?_ | refine And.intro ?_ ?_)) <;> (try (simp (maxSteps := 1000000) (disch := first | exact dq | fail) only [go_sem, hc, decide_true])))
    | (with_reducible (first | refine wantK_split (fun h => ?_) (fun h => ?_) | refine condK_split (fun h => ?_) (fun h => ?_) | refine pickV_split (fun h => ?_) (fun h => ?_)) <;> (try (simp (maxSteps := 1000000) (disch := first | exact dq | fail) only [go_sem] at h)) <;> (try (simp (maxSteps := 1000000) (disch := first | exact dq | fail) only [go_sem, h, hc, decide_true])))))
        all_goals (try omega)
        ((with_reducible apply left_callfF); (· with_reducible rfl); (· (simp (maxSteps := 1000000) (disch := first | exact dq | fail) only [go_sem]) <;> rfl); (· exact hI); try (simp (maxSteps := 1000000) (disch := first | exact dq | fail) only [go_sem]))
        (repeat' (first
    | ((first | with_reducible (first | refine aw_seq ?_ | refine aw_region (aops_run ?_)) | (with_reducible refine aw_regionD (fun _ => .p) mixed ?_ (dops_run ?_); (· kernel_rfl)) | (with_reducible refine aw_regionD (fun _ => .r) mixed ?_ (dops_run ?_); (· kernel_rfl)) | with_reducible (first | refine aw_condK ?_ | refine aw_skip ?_ | refine aw_ret ?_ | refine aw_exit ?_ | refine aw_label ?_ | refine aw_block ?_ | refine aw_scope ?_ | refine And.intro ?_ ?_)) <;> (try (simp (maxSteps := 1000000) (disch := first | exact dq | fail) only [go_sem])))
    | (with_reducible (first | refine wantK_split (fun h => ?_) (fun h => ?_) | refine condK_split (fun h => ?_) (fun h => ?_) | refine pickV_split (fun h => ?_) (fun h => ?_)) <;> (try (simp (maxSteps := 1000000) (disch := first | exact dq | fail) only [go_sem] at h)) <;> (try (simp (maxSteps := 1000000) (disch := first | exact dq | fail) only [go_sem, h])))))
        refine ⟨i + 1, ⟨by omega, fun j hj => ?_⟩, wk_by [0, 1, 2] ?_, by omega⟩
        · by_cases ej : j = i
          · subst ej; exact e
          · exact hno j (by omega)
        · (simp (maxSteps := 1000000) (disch := first | exact dq | fail) only [go_sem])
      | true =>
        have hbad : (decide (0 ≤ l.getD i 0) && decide (l.getD i 0 < size)) = false := by
          unfold offK at e
          rw [Bool.or_eq_true, decide_eq_true_eq, decide_eq_true_eq] at e
          rw [Bool.and_eq_false_iff, decide_eq_false_iff_not, decide_eq_false_iff_not]
          omega
        rw [hbad] at hI
        have hany : ¬ ((∀ r ∈ rows, r.length = n) ∧ l.any (offK size) = false) := fun hh => by
          have := List.any_eq_false.1 hh.2 _ (getD_mem g)
          rw [e] at this
          exact this rfl
        rw [if_neg hany]
        (repeat' (first
    | ((first | with_reducible (first | refine aw_seq ?_ | refine aw_region (aops_run ?_)) | (with_reducible refine aw_regionD (fun _ => .p) mixed ?_ (dops_run ?_); (· kernel_rfl)) | (with_reducible refine aw_regionD (fun _ => .r) mixed ?_ (dops_run ?_); (· kernel_rfl)) | with_reducible (first | refine aw_condK ?_ | refine aw_skip ?_ | refine aw_ret ?_ | refine aw_exit ?_ | refine aw_label ?_ | refine aw_block ?_ | refine aw_scope ?_ | refine And.intro ?_ ?_)) <;> (try (simp (maxSteps := 1000000) (disch := first | exact dq | fail) only [go_sem, hc, decide_true])))
    | (with_reducible (first | refine wantK_split (fun h => ?_) (fun h => ?_) | refine condK_split (fun h => ?_) (fun h => ?_) | refine pickV_split (fun h => ?_) (fun h => ?_)) <;> (try (simp (maxSteps := 1000000) (disch := first | exact dq | fail) only [go_sem] at h)) <;> (try (simp (maxSteps := 1000000) (disch := first | exact dq | fail) only [go_sem, h, hc, decide_true])))))
        all_goals (try omega)
        ((with_reducible apply left_callfF); (· with_reducible rfl); (· (simp (maxSteps := 1000000) (disch := first | exact dq | fail) only [go_sem]) <;> rfl); (· exact hI); try (simp (maxSteps := 1000000) (disch := first | exact dq | fail) only [go_sem]))
        (repeat' (first
    | ((first | with_reducible (first | refine aw_seq ?_ | refine aw_region (aops_run ?_)) | (with_reducible refine aw_regionD (fun _ => .p) mixed ?_ (dops_run ?_); (· kernel_rfl)) | (with_reducible refine aw_regionD (fun _ => .r) mixed ?_ (dops_run ?_); (· kernel_rfl)) | with_reducible (first | refine aw_condK ?_ | refine aw_skip ?_ | refine aw_ret ?_ | refine aw_exit ?_ | refine aw_label ?_ | refine aw_block ?_ | refine aw_scope ?_ | refine And.intro ?_ ?_)) <;> (try (simp (maxSteps := 1000000) (disch := first | exact dq | fail) only [go_sem])))
    | (with_reducible (first | refine wantK_split (fun h => ?_) (fun h => ?_) | refine condK_split (fun h => ?_) (fun h => ?_) | refine pickV_split (fun h => ?_) (fun h => ?_)) <;> (try (simp (maxSteps := 1000000) (disch := first | exact dq | fail) only [go_sem] at h)) <;> (try (simp (maxSteps := 1000000) (disch := first | exact dq | fail) only [go_sem, h])))))
        all_goals (try omega)
        exact sq_wave 10
    · obtain rfl : i = l.length := by omega
      have hc : ¬ ((l.length : Int) < l.length) := by omega
      have hany : l.any (offK size) = false := by
        rw [List.any_eq_false]
        intro x hx
        obtain ⟨j, hj, rfl⟩ := List.getElem_of_mem hx
        have := hno j hj
        rw [show l.getD j 0 = l[j] by simp [List.getD, List.getElem?_eq_getElem hj]] at this
        rw [this]; decide
      rw [if_pos ⟨ha, hany⟩]
      have hrl : (rows.map rankV).length = rows.length := by simp
      (repeat' (first
    | ((first | with_reducible (first | refine aw_seq ?_ | refine aw_region (aops_run ?_)) | (with_reducible refine aw_regionD (fun _ => .p) mixed ?_ (dops_run ?_); (· kernel_rfl)) | (with_reducible refine aw_regionD (fun _ => .r) mixed ?_ (dops_run ?_); (· kernel_rfl)) | with_reducible (first | refine aw_condK ?_ | refine aw_skip ?_ | refine aw_ret ?_ | refine aw_exit ?_ | refine aw_label ?_ | refine aw_block ?_ | refine aw_scope ?_ | refine And.intro ?_ ?_)) <;> (try (simp (maxSteps := 1000000) (disch := first | exact dq | fail) only [go_sem, hc, hlm, decide_false])))
    | (with_reducible (first | refine wantK_split (fun h => ?_) (fun h => ?_) | refine condK_split (fun h => ?_) (fun h => ?_) | refine pickV_split (fun h => ?_) (fun h => ?_)) <;> (try (simp (maxSteps := 1000000) (disch := first | exact dq | fail) only [go_sem] at h)) <;> (try (simp (maxSteps := 1000000) (disch := first | exact dq | fail) only [go_sem, h, hc, hlm, decide_false])))))
      all_goals (try omega)
      all_goals (try exact Sq.refl _)
end Go.Proofs.Ytkfjldkememadaa.AM
