
/- Chapter 4: symbols, few, awake. No condition. -/
import Derived.Test.YtkfjldkememadaaV9
import Derived.Test.YtkfjldkememadaaW5
set_option linter.unusedVariables false
set_option linter.unusedSimpArgs false
set_option maxRecDepth 20000
namespace Go.Proofs.Ytkfjldkememadaa.AM
open Go Go.RowKit

def symI (s n : Int) : Int := if n.tmod s < 0 then -(n.tmod s) else n.tmod s
def symsL (s : Int) (l : List Int) : List Int := (l.take 80).map (symI s)
theorem symI_ok {s : Int} (h : 0 < s) (n : Int) : 0 ≤ symI s n ∧ symI s n < s := by
  have h1 := Int.lt_tmod_of_pos n h
  have h2 := Int.tmod_lt_of_pos n h
  unfold symI
  split <;> omega
theorem symsL_len (s : Int) (l : List Int) : (symsL s l).length = min 80 l.length := by unfold symsL; rw [List.length_map, List.length_take]
theorem symsL_at (s : Int) (l : List Int) {i : Nat} (h : i < (symsL s l).length) : (symsL s l).getD i 0 = symI s (l.getD i 0) := by
  rw [symsL_len] at h
  unfold symsL
  simp [List.getD, List.getElem?_take, show i < 80 by omega, List.getElem?_eq_getElem (show i < l.length by omega)]
theorem symsL_ok {s : Int} (h : 0 < s) (l : List Int) : ∀ x ∈ symsL s l, 0 ≤ x ∧ x < s := by
  intro x hx
  obtain ⟨n, _, rfl⟩ := List.mem_map.1 hx
  exact symI_ok h n
theorem symbols_spec (l : List Int) (n : Int) : PCalls Try.prog 11 [inl l, .int .i64 n] (.tup [inl (symsL (1 + n % 32) l), .int .i64 (1 + n % 32)]) := by
  have em : bitI .and .i64 n 31 = n % 32 := and_maskS n 32 5 (by decide) rfl
  obtain ⟨s, hs⟩ : ∃ s, s = 1 + n % 32 := ⟨_, rfl⟩
  have hs0 : 0 < s ∧ s ≤ 32 := by omega
  rw [← hs]
  have hml := symsL_len s l
  have hma := fun i => @symsL_at s l i
  have hlt := fun x => Int.lt_tmod_of_pos x hs0.1
  have hgt := fun x => Int.tmod_lt_of_pos x hs0.1
  generalize symsL s l = m at *
  refine PCalls.of_aw Try.func11 rfl (by unfold Callable; kernel_rfl) (by kernel_rfl) (by simp [Try.ntmps11]) ?_; rw [Try.ntmps11, Try.results11]; (simp (disch := first | exact dq | fail) only [go_sem])
  (repeat' (first
    | ((first | with_reducible (first | refine aw_seq ?_ | refine aw_region (aops_run ?_)) | (with_reducible refine aw_regionD (fun _ => .p) mixed ?_ (dops_run ?_); (· kernel_rfl)) | (with_reducible refine aw_regionD (fun _ => .r) mixed ?_ (dops_run ?_); (· kernel_rfl)) | with_reducible (first | refine aw_condK ?_ | refine aw_skip ?_ | refine aw_ret ?_ | refine aw_exit ?_ | refine aw_label ?_ | refine aw_block ?_ | refine aw_scope ?_ | refine And.intro ?_ ?_)) <;> (try (simp (disch := first | exact dq | fail) only [go_sem, em])))
    | (with_reducible (first | refine wantK_split (fun h => ?_) (fun h => ?_) | refine condK_split (fun h => ?_) (fun h => ?_) | refine pickV_split (fun h => ?_) (fun h => ?_)) <;> (try (simp (disch := first | exact dq | fail) only [go_sem] at h)) <;> (try (simp (disch := first | exact dq | fail) only [go_sem, h, em])))))
  simp only [← hs]
  refine aw_loop (α := Nat) (fun i => ⟨39, sl [(0, .iv (inl l)), (6, .iv (.int .i64 s)), (7, .msl 0 0 i i), (8, .iv (.int .i64 i))], [.row true 3 1 ((m.take i).map (IV.int .i64))], 0⟩)
    (fun i => i ≤ m.length) (fun i => m.length - i) 0 (wk_by [1] ?_) (by omega) ?_
  · (simp (disch := first | exact dq | fail) only [go_sem])
  rintro i hi
  have htl : (m.take i).length = i := by rw [List.length_take]; omega
  by_cases h : i < m.length
  · have c1 : (i : Int) < l.length := by omega
    have c2 : (i : Int) < 80 := by omega
    have ht := take_snoc m h
    have hx := hma i h
    have h1 := hlt (l.getD i 0)
    have h2 := hgt (l.getD i 0)
    have hw : IntKind.i64.wrap ((l.getD i 0).tmod s) = (l.getD i 0).tmod s := wrapS ⟨by omega, by omega⟩
    have hw2 : IntKind.i64.wrap (-((l.getD i 0).tmod s)) = -((l.getD i 0).tmod s) := wrapS ⟨by omega, by omega⟩
    unfold symI at hx
    by_cases g : (l.getD i 0).tmod s < 0
    · rw [if_pos g] at hx
      rw [hx] at ht
      (repeat' (first
    | ((first | with_reducible (first | refine aw_seq ?_ | refine aw_region (aops_run ?_)) | (with_reducible refine aw_regionD (fun _ => .p) mixed ?_ (dops_run ?_); (· kernel_rfl)) | (with_reducible refine aw_regionD (fun _ => .r) mixed ?_ (dops_run ?_); (· kernel_rfl)) | with_reducible (first | refine aw_condK ?_ | refine aw_skip ?_ | refine aw_ret ?_ | refine aw_exit ?_ | refine aw_label ?_ | refine aw_block ?_ | refine aw_scope ?_ | refine And.intro ?_ ?_)) <;> (try (simp (disch := first | exact dq | fail) only [go_sem, htl, hw, hw2, c1, c2, g, decide_true])))
    | (with_reducible (first | refine wantK_split (fun h => ?_) (fun h => ?_) | refine condK_split (fun h => ?_) (fun h => ?_) | refine pickV_split (fun h => ?_) (fun h => ?_)) <;> (try (simp (disch := first | exact dq | fail) only [go_sem] at h)) <;> (try (simp (disch := first | exact dq | fail) only [go_sem, h, htl, hw, hw2, c1, c2, g, decide_true])))))
      all_goals (try omega)
      refine ⟨i + 1, by omega, wk_by [0] ?_, by omega⟩
      (simp (disch := first | exact dq | fail) only [go_sem, ht, List.map_append, Int.zero_sub])
    · rw [if_neg g] at hx
      rw [hx] at ht
      (repeat' (first
    | ((first | with_reducible (first | refine aw_seq ?_ | refine aw_region (aops_run ?_)) | (with_reducible refine aw_regionD (fun _ => .p) mixed ?_ (dops_run ?_); (· kernel_rfl)) | (with_reducible refine aw_regionD (fun _ => .r) mixed ?_ (dops_run ?_); (· kernel_rfl)) | with_reducible (first | refine aw_condK ?_ | refine aw_skip ?_ | refine aw_ret ?_ | refine aw_exit ?_ | refine aw_label ?_ | refine aw_block ?_ | refine aw_scope ?_ | refine And.intro ?_ ?_)) <;> (try (simp (disch := first | exact dq | fail) only [go_sem, htl, hw, c1, c2, g, decide_true, decide_false])))
    | (with_reducible (first | refine wantK_split (fun h => ?_) (fun h => ?_) | refine condK_split (fun h => ?_) (fun h => ?_) | refine pickV_split (fun h => ?_) (fun h => ?_)) <;> (try (simp (disch := first | exact dq | fail) only [go_sem] at h)) <;> (try (simp (disch := first | exact dq | fail) only [go_sem, h, htl, hw, c1, c2, g, decide_true, decide_false])))))
      all_goals (try omega)
      refine ⟨i + 1, by omega, wk_by [0] ?_, by omega⟩
      (simp (disch := first | exact dq | fail) only [go_sem, ht, List.map_append])
  · have e : m.take i = m := List.take_of_length_le (by omega)
    obtain rfl : i = m.length := by omega
    rw [e]
    by_cases c1 : m.length < l.length
    · have c1' : (m.length : Int) < l.length := by omega
      have c2 : ¬ ((m.length : Int) < 80) := by omega
      (repeat' (first
    | ((first | with_reducible (first | refine aw_seq ?_ | refine aw_region (aops_run ?_)) | (with_reducible refine aw_regionD (fun _ => .p) mixed ?_ (dops_run ?_); (· kernel_rfl)) | (with_reducible refine aw_regionD (fun _ => .r) mixed ?_ (dops_run ?_); (· kernel_rfl)) | with_reducible (first | refine aw_condK ?_ | refine aw_skip ?_ | refine aw_ret ?_ | refine aw_exit ?_ | refine aw_label ?_ | refine aw_block ?_ | refine aw_scope ?_ | refine And.intro ?_ ?_)) <;> (try (simp (disch := first | exact dq | fail) only [go_sem, c1', c2, decide_true, decide_false])))
    | (with_reducible (first | refine wantK_split (fun h => ?_) (fun h => ?_) | refine condK_split (fun h => ?_) (fun h => ?_) | refine pickV_split (fun h => ?_) (fun h => ?_)) <;> (try (simp (disch := first | exact dq | fail) only [go_sem] at h)) <;> (try (simp (disch := first | exact dq | fail) only [go_sem, h, c1', c2, decide_true, decide_false])))))
      all_goals (try omega)
      all_goals (try (rw [List.take_of_length_le (by simp)]))
    · have c1' : ¬ ((m.length : Int) < l.length) := by omega
      (repeat' (first
    | ((first | with_reducible (first | refine aw_seq ?_ | refine aw_region (aops_run ?_)) | (with_reducible refine aw_regionD (fun _ => .p) mixed ?_ (dops_run ?_); (· kernel_rfl)) | (with_reducible refine aw_regionD (fun _ => .r) mixed ?_ (dops_run ?_); (· kernel_rfl)) | with_reducible (first | refine aw_condK ?_ | refine aw_skip ?_ | refine aw_ret ?_ | refine aw_exit ?_ | refine aw_label ?_ | refine aw_block ?_ | refine aw_scope ?_ | refine And.intro ?_ ?_)) <;> (try (simp (disch := first | exact dq | fail) only [go_sem, c1', decide_false])))
    | (with_reducible (first | refine wantK_split (fun h => ?_) (fun h => ?_) | refine condK_split (fun h => ?_) (fun h => ?_) | refine pickV_split (fun h => ?_) (fun h => ?_)) <;> (try (simp (disch := first | exact dq | fail) only [go_sem] at h)) <;> (try (simp (disch := first | exact dq | fail) only [go_sem, h, c1', decide_false])))))
      all_goals (try omega)
      all_goals (try (rw [List.take_of_length_le (by simp)]))
def exL : List Int := [3, 1, 2, 1]
theorem ex_new : PCalls Try.prog 12 [inl exL, .int .i64 4] (.tup [waveV 4 4 (rowsOf exL 2), .int .i64 0]) :=
  New_ok exL 4 (by decide) (by decide) (by decide) (by decide)
theorem ex_ok : WOk exL 2 (rowsOf exL 2) := rowsOf_ok (by decide)
theorem awake4_spec : PCalls Try.prog 10 [] (.bool true) := by
  have hN := ex_new
  have hD := Distinct_spec ex_ok 4 (by decide) (by decide) 1 4
  rw [show distL exL 2 (clI exL.length 1) (clI exL.length (max 4 (clI exL.length 1))) = [1, 2] by decide] at hD
  have hR := Rank_in ex_ok 4 1 (by decide) (by decide) 3 (by decide) (by decide)
  rw [show cN (sy exL) 1 (clI exL.length 3) = 1 by decide] at hR
  have hS1 := Select_in ex_ok 4 3 (by decide) (by decide) (by decide) (by decide)
  rw [show sy exL 3 = 1 by decide, show cN (sy exL) 1 3 = 1 by decide] at hS1
  have hS0 := Select_out1 ex_ok 4 0 (by decide) (by decide) 0 (by decide) (by decide) (by decide)
  have hB := Below_in ex_ok 4 3 (by decide) (by decide) (by decide) 4 (by decide) (by decide)
  rw [show cL (sy exL) 3 (clI exL.length 4) = 3 by decide] at hB
  have hC := Count_in ex_ok 4 1 (by decide) (by decide) 1 4 (by decide) (by decide)
  rw [show cN (sy exL) 1 (clI exL.length (max 4 (clI exL.length 1))) = 2 by decide, show cN (sy exL) 1 (clI exL.length 1) = 0 by decide] at hC
  change PCalls _ _ [.agg [.int .i64 4, .int .i64 4, .sl 7 _], _, _] _ at hD
  change PCalls _ _ [.agg [.int .i64 4, .int .i64 4, .sl 7 _], .int .i64 1, _] (.int .i64 1) at hR
  change PCalls _ _ [.agg [.int .i64 4, .int .i64 4, .sl 7 _], .int .i64 1, .int .i64 1] (.int .i64 3) at hS1
  change PCalls _ _ [.agg [.int .i64 4, .int .i64 4, .sl 7 _], .int .i64 0, _] _ at hS0
  change PCalls _ _ [.agg [.int .i64 4, .int .i64 4, .sl 7 _], .int .i64 3, _] (.int .i64 3) at hB
  change PCalls _ _ [.agg [.int .i64 4, .int .i64 4, .sl 7 _], .int .i64 1, _, _] (.int .i64 2) at hC
  change PCalls _ _ [.sl 1 [.int .i64 3, .int .i64 1, .int .i64 2, .int .i64 1], _] (.tup [.agg [.int .i64 4, .int .i64 4, .sl 7 _], _]) at hN
  generalize (rowsOf exL 2).map rankV = R at *
  refine PCalls.of_aw Try.func10 rfl (by unfold Callable; kernel_rfl) (by kernel_rfl) (by simp [Try.ntmps10]) ?_; rw [Try.ntmps10, Try.results10]; (simp (disch := first | exact dq | fail) only [go_sem])
  (repeat' (first
    | ((first | with_reducible (first | refine aw_seq ?_ | refine aw_region (aops_run ?_)) | (with_reducible refine aw_regionD (fun _ => .p) mixed ?_ (dops_run ?_); (· kernel_rfl)) | (with_reducible refine aw_regionD (fun _ => .r) mixed ?_ (dops_run ?_); (· kernel_rfl)) | with_reducible (first | refine aw_condK ?_ | refine aw_skip ?_ | refine aw_ret ?_ | refine aw_exit ?_ | refine aw_label ?_ | refine aw_block ?_ | refine aw_scope ?_ | refine And.intro ?_ ?_)) <;> (try (simp (disch := first | exact dq | fail) only [go_sem])))
    | (with_reducible (first | refine wantK_split (fun h => ?_) (fun h => ?_) | refine condK_split (fun h => ?_) (fun h => ?_) | refine pickV_split (fun h => ?_) (fun h => ?_)) <;> (try (simp (disch := first | exact dq | fail) only [go_sem] at h)) <;> (try (simp (disch := first | exact dq | fail) only [go_sem, h])))))
  ((with_reducible apply left_callfF); (· with_reducible rfl); (· (simp (disch := first | exact dq | fail) only [go_sem]) <;> rfl); (· exact hN); try (simp (disch := first | exact dq | fail) only [go_sem]))
  (repeat' (first
    | ((first | with_reducible (first | refine aw_seq ?_ | refine aw_region (aops_run ?_)) | (with_reducible refine aw_regionD (fun _ => .p) mixed ?_ (dops_run ?_); (· kernel_rfl)) | (with_reducible refine aw_regionD (fun _ => .r) mixed ?_ (dops_run ?_); (· kernel_rfl)) | with_reducible (first | refine aw_condK ?_ | refine aw_skip ?_ | refine aw_ret ?_ | refine aw_exit ?_ | refine aw_label ?_ | refine aw_block ?_ | refine aw_scope ?_ | refine And.intro ?_ ?_)) <;> (try (simp (disch := first | exact dq | fail) only [go_sem])))
    | (with_reducible (first | refine wantK_split (fun h => ?_) (fun h => ?_) | refine condK_split (fun h => ?_) (fun h => ?_) | refine pickV_split (fun h => ?_) (fun h => ?_)) <;> (try (simp (disch := first | exact dq | fail) only [go_sem] at h)) <;> (try (simp (disch := first | exact dq | fail) only [go_sem, h])))))
  ((first | with_reducible apply left_callf | with_reducible apply leftD_callf | with_reducible apply leftF_callf); (· with_reducible rfl); (· (simp (disch := first | exact dq | fail) only [go_sem]) <;> rfl); (· exact hD); try (simp (disch := first | exact dq | fail) only [go_sem]))
  (repeat' (first
    | ((first | with_reducible (first | refine aw_seq ?_ | refine aw_region (aops_run ?_)) | (with_reducible refine aw_regionD (fun _ => .p) mixed ?_ (dops_run ?_); (· kernel_rfl)) | (with_reducible refine aw_regionD (fun _ => .r) mixed ?_ (dops_run ?_); (· kernel_rfl)) | with_reducible (first | refine aw_condK ?_ | refine aw_skip ?_ | refine aw_ret ?_ | refine aw_exit ?_ | refine aw_label ?_ | refine aw_block ?_ | refine aw_scope ?_ | refine And.intro ?_ ?_)) <;> (try (simp (disch := first | exact dq | fail) only [go_sem])))
    | (with_reducible (first | refine wantK_split (fun h => ?_) (fun h => ?_) | refine condK_split (fun h => ?_) (fun h => ?_) | refine pickV_split (fun h => ?_) (fun h => ?_)) <;> (try (simp (disch := first | exact dq | fail) only [go_sem] at h)) <;> (try (simp (disch := first | exact dq | fail) only [go_sem, h])))))
  ((first | with_reducible apply left_callf | with_reducible apply leftD_callf | with_reducible apply leftF_callf); (· with_reducible rfl); (· (simp (disch := first | exact dq | fail) only [go_sem]) <;> rfl); (· exact hR); try (simp (disch := first | exact dq | fail) only [go_sem]))
  (repeat' (first
    | ((first | with_reducible (first | refine aw_seq ?_ | refine aw_region (aops_run ?_)) | (with_reducible refine aw_regionD (fun _ => .p) mixed ?_ (dops_run ?_); (· kernel_rfl)) | (with_reducible refine aw_regionD (fun _ => .r) mixed ?_ (dops_run ?_); (· kernel_rfl)) | with_reducible (first | refine aw_condK ?_ | refine aw_skip ?_ | refine aw_ret ?_ | refine aw_exit ?_ | refine aw_label ?_ | refine aw_block ?_ | refine aw_scope ?_ | refine And.intro ?_ ?_)) <;> (try (simp (disch := first | exact dq | fail) only [go_sem])))
    | (with_reducible (first | refine wantK_split (fun h => ?_) (fun h => ?_) | refine condK_split (fun h => ?_) (fun h => ?_) | refine pickV_split (fun h => ?_) (fun h => ?_)) <;> (try (simp (disch := first | exact dq | fail) only [go_sem] at h)) <;> (try (simp (disch := first | exact dq | fail) only [go_sem, h])))))
  ((first | with_reducible apply left_callf | with_reducible apply leftD_callf | with_reducible apply leftF_callf); (· with_reducible rfl); (· (simp (disch := first | exact dq | fail) only [go_sem]) <;> rfl); (· exact hS1); try (simp (disch := first | exact dq | fail) only [go_sem]))
  (repeat' (first
    | ((first | with_reducible (first | refine aw_seq ?_ | refine aw_region (aops_run ?_)) | (with_reducible refine aw_regionD (fun _ => .p) mixed ?_ (dops_run ?_); (· kernel_rfl)) | (with_reducible refine aw_regionD (fun _ => .r) mixed ?_ (dops_run ?_); (· kernel_rfl)) | with_reducible (first | refine aw_condK ?_ | refine aw_skip ?_ | refine aw_ret ?_ | refine aw_exit ?_ | refine aw_label ?_ | refine aw_block ?_ | refine aw_scope ?_ | refine And.intro ?_ ?_)) <;> (try (simp (disch := first | exact dq | fail) only [go_sem])))
    | (with_reducible (first | refine wantK_split (fun h => ?_) (fun h => ?_) | refine condK_split (fun h => ?_) (fun h => ?_) | refine pickV_split (fun h => ?_) (fun h => ?_)) <;> (try (simp (disch := first | exact dq | fail) only [go_sem] at h)) <;> (try (simp (disch := first | exact dq | fail) only [go_sem, h])))))
  ((first | with_reducible apply left_callf | with_reducible apply leftD_callf | with_reducible apply leftF_callf); (· with_reducible rfl); (· (simp (disch := first | exact dq | fail) only [go_sem]) <;> rfl); (· exact hS0); try (simp (disch := first | exact dq | fail) only [go_sem]))
  (repeat' (first
    | ((first | with_reducible (first | refine aw_seq ?_ | refine aw_region (aops_run ?_)) | (with_reducible refine aw_regionD (fun _ => .p) mixed ?_ (dops_run ?_); (· kernel_rfl)) | (with_reducible refine aw_regionD (fun _ => .r) mixed ?_ (dops_run ?_); (· kernel_rfl)) | with_reducible (first | refine aw_condK ?_ | refine aw_skip ?_ | refine aw_ret ?_ | refine aw_exit ?_ | refine aw_label ?_ | refine aw_block ?_ | refine aw_scope ?_ | refine And.intro ?_ ?_)) <;> (try (simp (disch := first | exact dq | fail) only [go_sem])))
    | (with_reducible (first | refine wantK_split (fun h => ?_) (fun h => ?_) | refine condK_split (fun h => ?_) (fun h => ?_) | refine pickV_split (fun h => ?_) (fun h => ?_)) <;> (try (simp (disch := first | exact dq | fail) only [go_sem] at h)) <;> (try (simp (disch := first | exact dq | fail) only [go_sem, h])))))
  ((first | with_reducible apply left_callf | with_reducible apply leftD_callf | with_reducible apply leftF_callf); (· with_reducible rfl); (· (simp (disch := first | exact dq | fail) only [go_sem]) <;> rfl); (· exact hB); try (simp (disch := first | exact dq | fail) only [go_sem]))
  (repeat' (first
    | ((first | with_reducible (first | refine aw_seq ?_ | refine aw_region (aops_run ?_)) | (with_reducible refine aw_regionD (fun _ => .p) mixed ?_ (dops_run ?_); (· kernel_rfl)) | (with_reducible refine aw_regionD (fun _ => .r) mixed ?_ (dops_run ?_); (· kernel_rfl)) | with_reducible (first | refine aw_condK ?_ | refine aw_skip ?_ | refine aw_ret ?_ | refine aw_exit ?_ | refine aw_label ?_ | refine aw_block ?_ | refine aw_scope ?_ | refine And.intro ?_ ?_)) <;> (try (simp (disch := first | exact dq | fail) only [go_sem])))
    | (with_reducible (first | refine wantK_split (fun h => ?_) (fun h => ?_) | refine condK_split (fun h => ?_) (fun h => ?_) | refine pickV_split (fun h => ?_) (fun h => ?_)) <;> (try (simp (disch := first | exact dq | fail) only [go_sem] at h)) <;> (try (simp (disch := first | exact dq | fail) only [go_sem, h])))))
  ((first | with_reducible apply left_callf | with_reducible apply leftD_callf | with_reducible apply leftF_callf); (· with_reducible rfl); (· (simp (disch := first | exact dq | fail) only [go_sem]) <;> rfl); (· exact hC); try (simp (disch := first | exact dq | fail) only [go_sem]))
  (repeat' (first
    | ((first | with_reducible (first | refine aw_seq ?_ | refine aw_region (aops_run ?_)) | (with_reducible refine aw_regionD (fun _ => .p) mixed ?_ (dops_run ?_); (· kernel_rfl)) | (with_reducible refine aw_regionD (fun _ => .r) mixed ?_ (dops_run ?_); (· kernel_rfl)) | with_reducible (first | refine aw_condK ?_ | refine aw_skip ?_ | refine aw_ret ?_ | refine aw_exit ?_ | refine aw_label ?_ | refine aw_block ?_ | refine aw_scope ?_ | refine And.intro ?_ ?_)) <;> (try (simp (disch := first | exact dq | fail) only [go_sem])))
    | (with_reducible (first | refine wantK_split (fun h => ?_) (fun h => ?_) | refine condK_split (fun h => ?_) (fun h => ?_) | refine pickV_split (fun h => ?_) (fun h => ?_)) <;> (try (simp (disch := first | exact dq | fail) only [go_sem] at h)) <;> (try (simp (disch := first | exact dq | fail) only [go_sem, h])))))
end Go.Proofs.Ytkfjldkememadaa.AM
