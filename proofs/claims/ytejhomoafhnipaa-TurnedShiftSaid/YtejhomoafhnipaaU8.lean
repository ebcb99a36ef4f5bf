
/- Chapter 8: the laws TurnedRound, TurnedShift, TurnedWhole. No condition. -/
import Derived.Test.YtejhomoafhnipaaU6
set_option linter.unusedVariables false
set_option linter.unusedSimpArgs false
set_option maxRecDepth 20000
namespace Go.Proofs.Ytejhomoafhnipaa.AM
open Go Go.RowKit

set_option maxHeartbeats 1000000 in
theorem TurnedRound_spec (l : List Int) (n : Int) : PCalls Try.prog 12 [inl l, .int .i64 n] (.bool true) := by
  have em : bitI .and .i64 n 7 = n % 8 := and_maskS n 8 3 (by decide) rfl
  obtain ⟨k, hk⟩ : ∃ k, k = 1 + n % 8 := ⟨_, rfl⟩
  have hk0 : 0 < k ∧ k ≤ 8 := by omega
  have hw := cutS_wrap hk0.1 (by omega)
  have hml := alk_len 100 k l
  have hma := fun i => @alk_at 100 k l i
  have hmr : ∀ x ∈ alk 100 k l, 0 ≤ x := fun x hx => (alk_rng hk0.1 hx).1
  generalize alk 100 k l = m at *
  refine PCalls.of_aw Try.func12 rfl (by unfold Callable; kernel_rfl) (by kernel_rfl) (by simp [Try.ntmps12]) ?_; rw [Try.ntmps12, Try.results12]; (simp (maxSteps := 1000000) (disch := first | exact dq | fail) only [go_sem])
  (repeat' (first
    | ((first | with_reducible (first | refine aw_seq ?_ | refine aw_region (aops_run ?_)) | (with_reducible refine aw_regionD (fun _ => .p) mixed ?_ (dops_run ?_); (· kernel_rfl)) | (with_reducible refine aw_regionD (fun _ => .r) mixed ?_ (dops_run ?_); (· kernel_rfl)) | with_reducible (first | refine aw_condK ?_ | refine aw_skip ?_ | refine aw_ret ?_ | refine aw_exit ?_ | refine aw_label ?_ | refine aw_block ?_ | refine aw_scope ?_ | refine And.intro ?_ ?_)) <;> (try (simp (maxSteps := 1000000) (disch := first | exact dq | fail) only [go_sem])))
    | (with_reducible (first | refine wantK_split (fun h => ?_) (fun h => ?_) | refine condK_split (fun h => ?_) (fun h => ?_) | refine pickV_split (fun h => ?_) (fun h => ?_)) <;> (try (simp (maxSteps := 1000000) (disch := first | exact dq | fail) only [go_sem] at h)) <;> (try (simp (maxSteps := 1000000) (disch := first | exact dq | fail) only [go_sem, h])))))
  ((first | with_reducible apply left_callf | with_reducible apply leftD_callf | with_reducible apply leftF_callf); (· with_reducible rfl); (· (simp (maxSteps := 1000000) (disch := first | exact dq | fail) only [go_sem]) <;> rfl); (· exact awake8_spec); try (simp (maxSteps := 1000000) (disch := first | exact dq | fail) only [go_sem]))
  with_reducible refine aw_seq ?_
  with_reducible refine aw_region (aops_run ?_)
  (simp (maxSteps := 1000000) (disch := first | exact dq | fail) only [go_sem, em])
  simp only [← hk]
  ((with_reducible refine aw_seq ?_); (with_reducible refine aw_region (aops_run ?_)); try (simp (maxSteps := 1000000) (disch := first | exact dq | fail) only [go_sem]))
  refine aw_cut ⟨97, sl [(5, .iv (.bool true)), (7, .iv (inl m))], [], 0⟩ ?_ ?_
  · (repeat' (first
    | ((first | with_reducible (first | refine aw_seq ?_ | refine aw_region (aops_run ?_)) | (with_reducible refine aw_regionD (fun _ => .p) mixed ?_ (dops_run ?_); (· kernel_rfl)) | (with_reducible refine aw_regionD (fun _ => .r) mixed ?_ (dops_run ?_); (· kernel_rfl)) | with_reducible (first | refine aw_condK ?_ | refine aw_skip ?_ | refine aw_ret ?_ | refine aw_exit ?_ | refine aw_label ?_ | refine aw_block ?_ | refine aw_scope ?_ | refine And.intro ?_ ?_)) <;> (try (simp (maxSteps := 1000000) (disch := first | exact dq | fail) only [go_sem])))
    | (with_reducible (first | refine wantK_split (fun h => ?_) (fun h => ?_) | refine condK_split (fun h => ?_) (fun h => ?_) | refine pickV_split (fun h => ?_) (fun h => ?_)) <;> (try (simp (maxSteps := 1000000) (disch := first | exact dq | fail) only [go_sem] at h)) <;> (try (simp (maxSteps := 1000000) (disch := first | exact dq | fail) only [go_sem, h])))))
    refine aw_loop (α := Nat) (fun i => ⟨97, sl [(0, .iv (inl l)), (5, .iv (.bool true)), (6, .iv (.int .i64 k)), (7, .msl 0 0 i i), (8, .iv (.int .i64 i))], [.row true 3 1 ((m.take i).map (IV.int .i64))], 0⟩)
      (fun i => i ≤ m.length) (fun i => m.length - i) 0 (wk_by [0] ?_) (by omega) ?_
    · (simp (maxSteps := 1000000) (disch := first | exact dq | fail) only [go_sem])
    rintro i hi
    have htl : (m.take i).length = i := by rw [List.length_take]; omega
    by_cases h : i < m.length
    · have c1 : (i : Int) < l.length := by omega
      have c2 : (i : Int) < 100 := by omega
      have ht := take_snoc m h
      rw [hma i h] at ht
      (repeat' (first
    | ((first | with_reducible (first | refine aw_seq ?_ | refine aw_region (aops_run ?_)) | (with_reducible refine aw_regionD (fun _ => .p) mixed ?_ (dops_run ?_); (· kernel_rfl)) | (with_reducible refine aw_regionD (fun _ => .r) mixed ?_ (dops_run ?_); (· kernel_rfl)) | with_reducible (first | refine aw_condK ?_ | refine aw_skip ?_ | refine aw_ret ?_ | refine aw_exit ?_ | refine aw_label ?_ | refine aw_block ?_ | refine aw_scope ?_ | refine And.intro ?_ ?_)) <;> (try (simp (maxSteps := 1000000) (disch := first | exact dq | fail) only [go_sem, htl, hw, c1, c2, decide_true])))
    | (with_reducible (first | refine wantK_split (fun h => ?_) (fun h => ?_) | refine condK_split (fun h => ?_) (fun h => ?_) | refine pickV_split (fun h => ?_) (fun h => ?_)) <;> (try (simp (maxSteps := 1000000) (disch := first | exact dq | fail) only [go_sem] at h)) <;> (try (simp (maxSteps := 1000000) (disch := first | exact dq | fail) only [go_sem, h, htl, hw, c1, c2, decide_true])))))
      all_goals (try omega)
      refine ⟨i + 1, by omega, wk_by [0] ?_, by omega⟩
      (simp (maxSteps := 1000000) (disch := first | exact dq | fail) only [go_sem, ht, List.map_append])
    · have e : m.take i = m := List.take_of_length_le (by omega)
      obtain rfl : i = m.length := by omega
      rw [e]
      by_cases c1 : m.length < l.length
      · have c1' : (m.length : Int) < l.length := by omega
        have c2 : ¬ ((m.length : Int) < 100) := by omega
        (repeat' (first
    | ((first | with_reducible (first | refine aw_seq ?_ | refine aw_region (aops_run ?_)) | (with_reducible refine aw_regionD (fun _ => .p) mixed ?_ (dops_run ?_); (· kernel_rfl)) | (with_reducible refine aw_regionD (fun _ => .r) mixed ?_ (dops_run ?_); (· kernel_rfl)) | with_reducible (first | refine aw_condK ?_ | refine aw_skip ?_ | refine aw_ret ?_ | refine aw_exit ?_ | refine aw_label ?_ | refine aw_block ?_ | refine aw_scope ?_ | refine And.intro ?_ ?_)) <;> (try (simp (maxSteps := 1000000) (disch := first | exact dq | fail) only [go_sem, c1', c2, decide_true, decide_false])))
    | (with_reducible (first | refine wantK_split (fun h => ?_) (fun h => ?_) | refine condK_split (fun h => ?_) (fun h => ?_) | refine pickV_split (fun h => ?_) (fun h => ?_)) <;> (try (simp (maxSteps := 1000000) (disch := first | exact dq | fail) only [go_sem] at h)) <;> (try (simp (maxSteps := 1000000) (disch := first | exact dq | fail) only [go_sem, h, c1', c2, decide_true, decide_false])))))
        all_goals (try omega)
        refine Wk.trans (wk_frz (i := 7) (y := inl m) (M' := [.row false 3 1 (m.map (IV.int .i64))]) ?_) (wk_by [] ?_) <;> (simp (maxSteps := 1000000) (disch := first | exact dq | fail) only [go_sem])
      · have c1' : ¬ ((m.length : Int) < l.length) := by omega
        (repeat' (first
    | ((first | with_reducible (first | refine aw_seq ?_ | refine aw_region (aops_run ?_)) | (with_reducible refine aw_regionD (fun _ => .p) mixed ?_ (dops_run ?_); (· kernel_rfl)) | (with_reducible refine aw_regionD (fun _ => .r) mixed ?_ (dops_run ?_); (· kernel_rfl)) | with_reducible (first | refine aw_condK ?_ | refine aw_skip ?_ | refine aw_ret ?_ | refine aw_exit ?_ | refine aw_label ?_ | refine aw_block ?_ | refine aw_scope ?_ | refine And.intro ?_ ?_)) <;> (try (simp (maxSteps := 1000000) (disch := first | exact dq | fail) only [go_sem, c1', decide_false])))
    | (with_reducible (first | refine wantK_split (fun h => ?_) (fun h => ?_) | refine condK_split (fun h => ?_) (fun h => ?_) | refine pickV_split (fun h => ?_) (fun h => ?_)) <;> (try (simp (maxSteps := 1000000) (disch := first | exact dq | fail) only [go_sem] at h)) <;> (try (simp (maxSteps := 1000000) (disch := first | exact dq | fail) only [go_sem, h, c1', decide_false])))))
        all_goals (try omega)
        refine Wk.trans (wk_frz (i := 7) (y := inl m) (M' := [.row false 3 1 (m.map (IV.int .i64))]) ?_) (wk_by [] ?_) <;> (simp (maxSteps := 1000000) (disch := first | exact dq | fail) only [go_sem])
  have hT := Turn_ok m (by omega) hmr
  have hr := turn_rnd hmr
  have htl := turnL_len m
  have hN := (Next_spec (turnL m) (by omega)).1 hr
  have hbl := boL_len (turnL m)
  have hcl := cyc_lt hr.pos
  have hcs : ∀ j, cycF (boL (turnL m)) (j + 1) = ((boL (turnL m)).getD (cycF (boL (turnL m)) j) 0).toNat := fun j => rfl
  have hbr := fun r => @boL_rng (turnL m) r
  have hend := hr.cyc
  have hnot := hr.not
  have hcy0 : cycF (boL (turnL m)) 0 = 0 := rfl
  generalize boL (turnL m) = D at *
  generalize turnL m = t at *
  have hdl : (D.length : Int) = (m.length : Int) + 1 := by omega
  (repeat' (first
    | ((first | with_reducible (first | refine aw_seq ?_ | refine aw_region (aops_run ?_)) | (with_reducible refine aw_regionD (fun _ => .p) mixed ?_ (dops_run ?_); (· kernel_rfl)) | (with_reducible refine aw_regionD (fun _ => .r) mixed ?_ (dops_run ?_); (· kernel_rfl)) | with_reducible (first | refine aw_condK ?_ | refine aw_skip ?_ | refine aw_ret ?_ | refine aw_exit ?_ | refine aw_label ?_ | refine aw_block ?_ | refine aw_scope ?_ | refine And.intro ?_ ?_)) <;> (try (simp (maxSteps := 1000000) (disch := first | exact dq | fail) only [go_sem])))
    | (with_reducible (first | refine wantK_split (fun h => ?_) (fun h => ?_) | refine condK_split (fun h => ?_) (fun h => ?_) | refine pickV_split (fun h => ?_) (fun h => ?_)) <;> (try (simp (maxSteps := 1000000) (disch := first | exact dq | fail) only [go_sem] at h)) <;> (try (simp (maxSteps := 1000000) (disch := first | exact dq | fail) only [go_sem, h])))))
  ((first | with_reducible apply left_callf | with_reducible apply leftD_callf | with_reducible apply leftF_callf); (· with_reducible rfl); (· (simp (maxSteps := 1000000) (disch := first | exact dq | fail) only [go_sem]) <;> rfl); (· exact hT); try (simp (maxSteps := 1000000) (disch := first | exact dq | fail) only [go_sem]))
  (repeat' (first
    | ((first | with_reducible (first | refine aw_seq ?_ | refine aw_region (aops_run ?_)) | (with_reducible refine aw_regionD (fun _ => .p) mixed ?_ (dops_run ?_); (· kernel_rfl)) | (with_reducible refine aw_regionD (fun _ => .r) mixed ?_ (dops_run ?_); (· kernel_rfl)) | with_reducible (first | refine aw_condK ?_ | refine aw_skip ?_ | refine aw_ret ?_ | refine aw_exit ?_ | refine aw_label ?_ | refine aw_block ?_ | refine aw_scope ?_ | refine And.intro ?_ ?_)) <;> (try (simp (maxSteps := 1000000) (disch := first | exact dq | fail) only [go_sem])))
    | (with_reducible (first | refine wantK_split (fun h => ?_) (fun h => ?_) | refine condK_split (fun h => ?_) (fun h => ?_) | refine pickV_split (fun h => ?_) (fun h => ?_)) <;> (try (simp (maxSteps := 1000000) (disch := first | exact dq | fail) only [go_sem] at h)) <;> (try (simp (maxSteps := 1000000) (disch := first | exact dq | fail) only [go_sem, h])))))
  ((first | with_reducible apply left_callf | with_reducible apply leftD_callf | with_reducible apply leftF_callf); (· with_reducible rfl); (· (simp (maxSteps := 1000000) (disch := first | exact dq | fail) only [go_sem]) <;> rfl); (· exact hN); try (simp (maxSteps := 1000000) (disch := first | exact dq | fail) only [go_sem]))
  (repeat' (first
    | ((first | with_reducible (first | refine aw_seq ?_ | refine aw_region (aops_run ?_)) | (with_reducible refine aw_regionD (fun _ => .p) mixed ?_ (dops_run ?_); (· kernel_rfl)) | (with_reducible refine aw_regionD (fun _ => .r) mixed ?_ (dops_run ?_); (· kernel_rfl)) | with_reducible (first | refine aw_condK ?_ | refine aw_skip ?_ | refine aw_ret ?_ | refine aw_exit ?_ | refine aw_label ?_ | refine aw_block ?_ | refine aw_scope ?_ | refine And.intro ?_ ?_)) <;> (try (simp (maxSteps := 1000000) (disch := first | exact dq | fail) only [go_sem, hdl, eq_self, decide_true])))
    | (with_reducible (first | refine wantK_split (fun h => ?_) (fun h => ?_) | refine condK_split (fun h => ?_) (fun h => ?_) | refine pickV_split (fun h => ?_) (fun h => ?_)) <;> (try (simp (maxSteps := 1000000) (disch := first | exact dq | fail) only [go_sem] at h)) <;> (try (simp (maxSteps := 1000000) (disch := first | exact dq | fail) only [go_sem, h, hdl, eq_self, decide_true])))))
  all_goals (try omega)
  refine aw_loop (α := Nat) (fun i => ⟨97, sl [(5, .iv (.bool true)), (7, .iv (inl m)), (11, .iv (inl D)), (13, .iv (.int .i64 (cycF D i))), (14, .iv (.int .i64 i))], [], 0⟩)
    (fun i => i ≤ m.length + 1) (fun i => m.length + 1 - i) 0 (wk_by [] ?_) (by omega) ?_
  · (simp (maxSteps := 1000000) (disch := first | exact dq | fail) only [go_sem, hcy0])
  rintro i hi
  have hci := hcl i
  by_cases h : i < m.length + 1
  · have hc : (i : Int) ≤ m.length := by omega
    have hc1 : ¬ (((cycF D i : Nat) : Int) < 0) := by omega
    have hc2 : ¬ (((cycF D i : Nat) : Int) ≥ D.length) := by omega
    have hsi := hcs i
    have hni := hnot i
    obtain ⟨d, hd⟩ : ∃ d : Nat, D.getD (cycF D i) 0 = (d : Int) := ⟨(D.getD (cycF D i) 0).toNat, by have := hbr _ hci; omega⟩
    have hgd : D[cycF D i]? = some (d : Int) := by rw [← hd]; simp [List.getD, List.getElem?_eq_getElem (show cycF D i < D.length by omega)]
    rw [hd, Int.toNat_natCast] at hsi
    by_cases h0 : i = 0
    · have hc0 : ¬ ((i : Int) > 0) := by omega
      (repeat' (first
    | ((first | with_reducible (first | refine aw_seq ?_ | refine aw_region (aops_run ?_)) | (with_reducible refine aw_regionD (fun _ => .p) mixed ?_ (dops_run ?_); (· kernel_rfl)) | (with_reducible refine aw_regionD (fun _ => .r) mixed ?_ (dops_run ?_); (· kernel_rfl)) | with_reducible (first | refine aw_condK ?_ | refine aw_skip ?_ | refine aw_ret ?_ | refine aw_exit ?_ | refine aw_label ?_ | refine aw_block ?_ | refine aw_scope ?_ | refine And.intro ?_ ?_)) <;> (try (simp (maxSteps := 1000000) (disch := first | exact dq | fail) only [go_sem, hc, hc0, hc1, hc2, hgd, decide_true, decide_false])))
    | (with_reducible (first | refine wantK_split (fun h => ?_) (fun h => ?_) | refine condK_split (fun h => ?_) (fun h => ?_) | refine pickV_split (fun h => ?_) (fun h => ?_)) <;> (try (simp (maxSteps := 1000000) (disch := first | exact dq | fail) only [go_sem] at h)) <;> (try (simp (maxSteps := 1000000) (disch := first | exact dq | fail) only [go_sem, h, hc, hc0, hc1, hc2, hgd, decide_true, decide_false])))))
      all_goals (try omega)
      refine ⟨i + 1, by omega, wk_by [] ?_, by omega⟩
      (simp (maxSteps := 1000000) (disch := first | exact dq | fail) only [go_sem, hsi])
    · have hc0 : (i : Int) > 0 := by omega
      have hc3 : ¬ (((cycF D i : Nat) : Int) = 0) := by have := hni (by omega) (by omega); omega
      (repeat' (first
    | ((first | with_reducible (first | refine aw_seq ?_ | refine aw_region (aops_run ?_)) | (with_reducible refine aw_regionD (fun _ => .p) mixed ?_ (dops_run ?_); (· kernel_rfl)) | (with_reducible refine aw_regionD (fun _ => .r) mixed ?_ (dops_run ?_); (· kernel_rfl)) | with_reducible (first | refine aw_condK ?_ | refine aw_skip ?_ | refine aw_ret ?_ | refine aw_exit ?_ | refine aw_label ?_ | refine aw_block ?_ | refine aw_scope ?_ | refine And.intro ?_ ?_)) <;> (try (simp (maxSteps := 1000000) (disch := first | exact dq | fail) only [go_sem, hc, hc0, hc1, hc2, hc3, hgd, decide_true, decide_false])))
    | (with_reducible (first | refine wantK_split (fun h => ?_) (fun h => ?_) | refine condK_split (fun h => ?_) (fun h => ?_) | refine pickV_split (fun h => ?_) (fun h => ?_)) <;> (try (simp (maxSteps := 1000000) (disch := first | exact dq | fail) only [go_sem] at h)) <;> (try (simp (maxSteps := 1000000) (disch := first | exact dq | fail) only [go_sem, h, hc, hc0, hc1, hc2, hc3, hgd, decide_true, decide_false])))))
      all_goals (try omega)
      refine ⟨i + 1, by omega, wk_by [] ?_, by omega⟩
      (simp (maxSteps := 1000000) (disch := first | exact dq | fail) only [go_sem, hsi])
  · obtain rfl : i = m.length + 1 := by omega
    have hc : ¬ (((m.length + 1 : Nat) : Int) ≤ m.length) := by omega
    have hz : cycF D (m.length + 1) = 0 := by rw [← htl]; exact hend
    rw [hz]
    (repeat' (first
    | ((first | with_reducible (first | refine aw_seq ?_ | refine aw_region (aops_run ?_)) | (with_reducible refine aw_regionD (fun _ => .p) mixed ?_ (dops_run ?_); (· kernel_rfl)) | (with_reducible refine aw_regionD (fun _ => .r) mixed ?_ (dops_run ?_); (· kernel_rfl)) | with_reducible (first | refine aw_condK ?_ | refine aw_skip ?_ | refine aw_ret ?_ | refine aw_exit ?_ | refine aw_label ?_ | refine aw_block ?_ | refine aw_scope ?_ | refine And.intro ?_ ?_)) <;> (try (simp (maxSteps := 1000000) (disch := first | exact dq | fail) only [go_sem, hc, decide_false])))
    | (with_reducible (first | refine wantK_split (fun h => ?_) (fun h => ?_) | refine condK_split (fun h => ?_) (fun h => ?_) | refine pickV_split (fun h => ?_) (fun h => ?_)) <;> (try (simp (maxSteps := 1000000) (disch := first | exact dq | fail) only [go_sem] at h)) <;> (try (simp (maxSteps := 1000000) (disch := first | exact dq | fail) only [go_sem, h, hc, decide_false])))))
    all_goals (try omega)
def shM (d : Int) (m : List Int) : List Int := m.map (· + d)
theorem shM_len (d : Int) (m : List Int) : (shM d m).length = m.length := by simp [shM]
theorem sa_shM (d : Int) (m : List Int) : saL (shM d m) = saL m := by
  have hl := shM_len d m
  refine (sa_eq ?_).symm
  have h := saL_sa m
  refine ⟨h.1.imp_of_mem (fun {x y} hx hy hxy => ?_), fun x => by rw [h.2, hl]⟩
  have h1 := (h.2 x).1 hx
  have h2 := (h.2 y).1 hy
  unfold Rs sl2 at hxy ⊢
  rw [← hxy]
  refine wl_same (a := shM d m) (b := m) hl (fun i k hi hk => ?_) _ x.toNat y.toNat (Nat.le_refl _) (by omega) (by omega)
  rw [hl] at hi hk
  unfold shM
  rw [getD_map_at hi, getD_map_at hk]
  omega
theorem turn_sh {d : Int} {m : List Int} (hd : 0 ≤ d) (h : ∀ x ∈ m, 0 ≤ x) {i : Nat} (hi : i ≤ m.length) : ((turnL m).getD i 0 = -1 ∧ (turnL (shM d m)).getD i 0 = -1) ∨ (0 ≤ (turnL m).getD i 0 ∧ (turnL (shM d m)).getD i 0 = (turnL m).getD i 0 + d) := by
  have hl := shM_len d m
  have hrw : rwN (shM d m) i = rwN m i := by unfold rwN; rw [sa_shM, hl]
  rw [turn_at hi, turn_at (by omega), hrw]
  have hle := rw_le hi
  cases hr : rwN m i with
  | zero => left; exact ⟨rfl, rfl⟩
  | succ q =>
    right
    rw [ahd_succ, ahd_succ]
    unfold shM
    rw [getD_map_at (by omega)]
    exact ⟨turn_mem h (by omega), rfl⟩
set_option maxHeartbeats 2000000 in
theorem TurnedShift_spec (l : List Int) (n more : Int) : PCalls Try.prog 13 [inl l, .int .i64 n, .int .i64 more] (.bool true) := by
  have em : bitI .and .i64 n 3 = n % 4 := and_maskS n 4 2 (by decide) rfl
  have em2 : bitI .and .i64 more 1023 = more % 1024 := and_maskS more 1024 10 (by decide) rfl
  obtain ⟨k, hk⟩ : ∃ k, k = 1 + n % 4 := ⟨_, rfl⟩
  obtain ⟨d, hd⟩ : ∃ d, d = more % 1024 := ⟨_, rfl⟩
  have hd0 : 0 ≤ d ∧ d < 1024 := by omega
  have hk0 : 0 < k ∧ k ≤ 4 := by omega
  have hw := cutS_wrap hk0.1 (by omega)
  have hml := alk_len 100 k l
  have hma := fun i => @alk_at 100 k l i
  have hmr := fun x hx => @alk_rng 100 k l x hk0.1 hx
  generalize alk 100 k l = m at *
  have hmr0 : ∀ x ∈ m, 0 ≤ x := fun x hx => (hmr x hx).1
  have hsl := shM_len d m
  have hsh := fun i => @turn_sh d m hd0.1 hmr0 i
  have hqr : ∀ x ∈ shM d m, 0 ≤ x := fun x hx => by
    unfold shM at hx
    obtain ⟨y, hy, rfl⟩ := List.mem_map.1 hx
    have := hmr0 y hy
    show 0 ≤ y + d
    omega
  have hst : ∀ i, i < m.length → (shM d m).getD i 0 = m.getD i 0 + d := fun i hi => by unfold shM; exact getD_map_at hi
  generalize shM d m = q at *
  refine PCalls.of_aw Try.func13 rfl (by unfold Callable; kernel_rfl) (by kernel_rfl) (by simp [Try.ntmps13]) ?_; rw [Try.ntmps13, Try.results13]; (simp (maxSteps := 1000000) (disch := first | exact dq | fail) only [go_sem])
  (repeat' (first
    | ((first | with_reducible (first | refine aw_seq ?_ | refine aw_region (aops_run ?_)) | (with_reducible refine aw_regionD (fun _ => .p) mixed ?_ (dops_run ?_); (· kernel_rfl)) | (with_reducible refine aw_regionD (fun _ => .r) mixed ?_ (dops_run ?_); (· kernel_rfl)) | with_reducible (first | refine aw_condK ?_ | refine aw_skip ?_ | refine aw_ret ?_ | refine aw_exit ?_ | refine aw_label ?_ | refine aw_block ?_ | refine aw_scope ?_ | refine And.intro ?_ ?_)) <;> (try (simp (maxSteps := 1000000) (disch := first | exact dq | fail) only [go_sem])))
    | (with_reducible (first | refine wantK_split (fun h => ?_) (fun h => ?_) | refine condK_split (fun h => ?_) (fun h => ?_) | refine pickV_split (fun h => ?_) (fun h => ?_)) <;> (try (simp (maxSteps := 1000000) (disch := first | exact dq | fail) only [go_sem] at h)) <;> (try (simp (maxSteps := 1000000) (disch := first | exact dq | fail) only [go_sem, h])))))
  ((first | with_reducible apply left_callf | with_reducible apply leftD_callf | with_reducible apply leftF_callf); (· with_reducible rfl); (· (simp (maxSteps := 1000000) (disch := first | exact dq | fail) only [go_sem]) <;> rfl); (· exact awake8_spec); try (simp (maxSteps := 1000000) (disch := first | exact dq | fail) only [go_sem]))
  with_reducible refine aw_seq ?_
  with_reducible refine aw_region (aops_run ?_)
  (simp (maxSteps := 1000000) (disch := first | exact dq | fail) only [go_sem, em])
  simp only [← hk]
  with_reducible refine aw_seq ?_
  with_reducible refine aw_region (aops_run ?_)
  (simp (maxSteps := 1000000) (disch := first | exact dq | fail) only [go_sem, em2])
  simp only [← hd]
  ((with_reducible refine aw_seq ?_); (with_reducible refine aw_region (aops_run ?_)); try (simp (maxSteps := 1000000) (disch := first | exact dq | fail) only [go_sem]))
  ((with_reducible refine aw_seq ?_); (with_reducible refine aw_region (aops_run ?_)); try (simp (maxSteps := 1000000) (disch := first | exact dq | fail) only [go_sem]))
  refine aw_cut ⟨124, sl [(7, .iv (.bool true)), (9, .iv (.int .i64 d)), (10, .iv (inl m)), (11, .iv (inl q))], [], 0⟩ ?_ ?_
  · (repeat' (first
    | ((first | with_reducible (first | refine aw_seq ?_ | refine aw_region (aops_run ?_)) | (with_reducible refine aw_regionD (fun _ => .p) mixed ?_ (dops_run ?_); (· kernel_rfl)) | (with_reducible refine aw_regionD (fun _ => .r) mixed ?_ (dops_run ?_); (· kernel_rfl)) | with_reducible (first | refine aw_condK ?_ | refine aw_skip ?_ | refine aw_ret ?_ | refine aw_exit ?_ | refine aw_label ?_ | refine aw_block ?_ | refine aw_scope ?_ | refine And.intro ?_ ?_)) <;> (try (simp (maxSteps := 1000000) (disch := first | exact dq | fail) only [go_sem])))
    | (with_reducible (first | refine wantK_split (fun h => ?_) (fun h => ?_) | refine condK_split (fun h => ?_) (fun h => ?_) | refine pickV_split (fun h => ?_) (fun h => ?_)) <;> (try (simp (maxSteps := 1000000) (disch := first | exact dq | fail) only [go_sem] at h)) <;> (try (simp (maxSteps := 1000000) (disch := first | exact dq | fail) only [go_sem, h])))))
    refine aw_loop (α := Nat) (fun i => ⟨124, sl [(0, .iv (inl l)), (7, .iv (.bool true)), (8, .iv (.int .i64 k)), (9, .iv (.int .i64 d)), (10, .msl 0 0 i i), (11, .msl 1 0 i i), (12, .iv (.int .i64 i))], [.row true 3 1 ((m.take i).map (IV.int .i64)), .row true 3 1 ((q.take i).map (IV.int .i64))], 0⟩)
      (fun i => i ≤ m.length) (fun i => m.length - i) 0 (wk_by [0, 1] ?_) (by omega) ?_
    · (simp (maxSteps := 1000000) (disch := first | exact dq | fail) only [go_sem])
    rintro i hi
    have htl : (m.take i).length = i := by rw [List.length_take]; omega
    have htq : (q.take i).length = i := by rw [List.length_take]; omega
    by_cases h : i < m.length
    · have c1 : (i : Int) < l.length := by omega
      have c2 : (i : Int) < 100 := by omega
      have ht := take_snoc m h
      have htt := take_snoc q (j := i) (by omega)
      have hr := hmr _ (getD_mem h)
      rw [hst i h, hma i h] at htt
      rw [hma i h] at ht hr
      obtain ⟨z, hz⟩ : ∃ z, cutS k (l.getD i 0) = z := ⟨_, rfl⟩
      rw [hz] at ht htt hr
      (repeat' (first
    | ((first | with_reducible (first | refine aw_seq ?_ | refine aw_region (aops_run ?_)) | (with_reducible refine aw_regionD (fun _ => .p) mixed ?_ (dops_run ?_); (· kernel_rfl)) | (with_reducible refine aw_regionD (fun _ => .r) mixed ?_ (dops_run ?_); (· kernel_rfl)) | with_reducible (first | refine aw_condK ?_ | refine aw_skip ?_ | refine aw_ret ?_ | refine aw_exit ?_ | refine aw_label ?_ | refine aw_block ?_ | refine aw_scope ?_ | refine And.intro ?_ ?_)) <;> (try (simp (maxSteps := 1000000) (disch := first | exact dq | fail) only [go_sem, htl, htq, hw, hz, c1, c2, decide_true])))
    | (with_reducible (first | refine wantK_split (fun h => ?_) (fun h => ?_) | refine condK_split (fun h => ?_) (fun h => ?_) | refine pickV_split (fun h => ?_) (fun h => ?_)) <;> (try (simp (maxSteps := 1000000) (disch := first | exact dq | fail) only [go_sem] at h)) <;> (try (simp (maxSteps := 1000000) (disch := first | exact dq | fail) only [go_sem, h, htl, htq, hw, hz, c1, c2, decide_true])))))
      all_goals (try omega)
      refine ⟨i + 1, by omega, wk_by [0, 1] ?_, by omega⟩
      (simp (maxSteps := 1000000) (disch := first | exact dq | fail) only [go_sem, ht, htt, List.map_append])
    · have e : m.take i = m := List.take_of_length_le (by omega)
      have e2 : q.take i = q := List.take_of_length_le (by omega)
      have hqi : q.length = i := by omega
      obtain rfl : i = m.length := by omega
      rw [e, e2]
      by_cases c1 : m.length < l.length
      · have c1' : (m.length : Int) < l.length := by omega
        have c2 : ¬ ((m.length : Int) < 100) := by omega
        (repeat' (first
    | ((first | with_reducible (first | refine aw_seq ?_ | refine aw_region (aops_run ?_)) | (with_reducible refine aw_regionD (fun _ => .p) mixed ?_ (dops_run ?_); (· kernel_rfl)) | (with_reducible refine aw_regionD (fun _ => .r) mixed ?_ (dops_run ?_); (· kernel_rfl)) | with_reducible (first | refine aw_condK ?_ | refine aw_skip ?_ | refine aw_ret ?_ | refine aw_exit ?_ | refine aw_label ?_ | refine aw_block ?_ | refine aw_scope ?_ | refine And.intro ?_ ?_)) <;> (try (simp (maxSteps := 1000000) (disch := first | exact dq | fail) only [go_sem, c1', c2, decide_true, decide_false])))
    | (with_reducible (first | refine wantK_split (fun h => ?_) (fun h => ?_) | refine condK_split (fun h => ?_) (fun h => ?_) | refine pickV_split (fun h => ?_) (fun h => ?_)) <;> (try (simp (maxSteps := 1000000) (disch := first | exact dq | fail) only [go_sem] at h)) <;> (try (simp (maxSteps := 1000000) (disch := first | exact dq | fail) only [go_sem, h, c1', c2, decide_true, decide_false])))))
        all_goals (try omega)
        refine Wk.trans (wk_frz (i := 10) (y := inl m) (M' := [.row false 3 1 (m.map (IV.int .i64)), .row true 3 1 (q.map (IV.int .i64))]) ?_) (Wk.trans (wk_frz (i := 11) (y := inl q) (M' := [.row false 3 1 (m.map (IV.int .i64)), .row false 3 1 (q.map (IV.int .i64))]) ?_) (wk_by [] ?_)) <;> (simp (maxSteps := 1000000) (disch := first | exact dq | fail) only [go_sem, ← hqi])
      · have c1' : ¬ ((m.length : Int) < l.length) := by omega
        (repeat' (first
    | ((first | with_reducible (first | refine aw_seq ?_ | refine aw_region (aops_run ?_)) | (with_reducible refine aw_regionD (fun _ => .p) mixed ?_ (dops_run ?_); (· kernel_rfl)) | (with_reducible refine aw_regionD (fun _ => .r) mixed ?_ (dops_run ?_); (· kernel_rfl)) | with_reducible (first | refine aw_condK ?_ | refine aw_skip ?_ | refine aw_ret ?_ | refine aw_exit ?_ | refine aw_label ?_ | refine aw_block ?_ | refine aw_scope ?_ | refine And.intro ?_ ?_)) <;> (try (simp (maxSteps := 1000000) (disch := first | exact dq | fail) only [go_sem, c1', decide_false])))
    | (with_reducible (first | refine wantK_split (fun h => ?_) (fun h => ?_) | refine condK_split (fun h => ?_) (fun h => ?_) | refine pickV_split (fun h => ?_) (fun h => ?_)) <;> (try (simp (maxSteps := 1000000) (disch := first | exact dq | fail) only [go_sem] at h)) <;> (try (simp (maxSteps := 1000000) (disch := first | exact dq | fail) only [go_sem, h, c1', decide_false])))))
        all_goals (try omega)
        refine Wk.trans (wk_frz (i := 10) (y := inl m) (M' := [.row false 3 1 (m.map (IV.int .i64)), .row true 3 1 (q.map (IV.int .i64))]) ?_) (Wk.trans (wk_frz (i := 11) (y := inl q) (M' := [.row false 3 1 (m.map (IV.int .i64)), .row false 3 1 (q.map (IV.int .i64))]) ?_) (wk_by [] ?_)) <;> (simp (maxSteps := 1000000) (disch := first | exact dq | fail) only [go_sem, ← hqi])
  have hA := Turn_ok m (by omega) hmr0
  have hB := Turn_ok q (by omega) hqr
  have hl1 := turnL_len m
  have hl2 := turnL_len q
  have hup : ∀ i, i ≤ m.length → (turnL m).getD i 0 < 4 := fun i hi => by
    rw [turn_at hi]
    have hle := rw_le hi
    cases hr : rwN m i with
    | zero => show (-1 : Int) < 4; decide
    | succ j => rw [ahd_succ]; have := (hmr _ (getD_mem (l := m) (k := j) (by omega))).2; omega
  generalize turnL m = u at *
  generalize turnL q = v at *
  have hc1 : (u.length : Int) = (m.length : Int) + 1 := by omega
  have hc2 : (v.length : Int) = (m.length : Int) + 1 := by omega
  (repeat' (first
    | ((first | with_reducible (first | refine aw_seq ?_ | refine aw_region (aops_run ?_)) | (with_reducible refine aw_regionD (fun _ => .p) mixed ?_ (dops_run ?_); (· kernel_rfl)) | (with_reducible refine aw_regionD (fun _ => .r) mixed ?_ (dops_run ?_); (· kernel_rfl)) | with_reducible (first | refine aw_condK ?_ | refine aw_skip ?_ | refine aw_ret ?_ | refine aw_exit ?_ | refine aw_label ?_ | refine aw_block ?_ | refine aw_scope ?_ | refine And.intro ?_ ?_)) <;> (try (simp (maxSteps := 1000000) (disch := first | exact dq | fail) only [go_sem])))
    | (with_reducible (first | refine wantK_split (fun h => ?_) (fun h => ?_) | refine condK_split (fun h => ?_) (fun h => ?_) | refine pickV_split (fun h => ?_) (fun h => ?_)) <;> (try (simp (maxSteps := 1000000) (disch := first | exact dq | fail) only [go_sem] at h)) <;> (try (simp (maxSteps := 1000000) (disch := first | exact dq | fail) only [go_sem, h])))))
  ((first | with_reducible apply left_callf | with_reducible apply leftD_callf | with_reducible apply leftF_callf); (· with_reducible rfl); (· (simp (maxSteps := 1000000) (disch := first | exact dq | fail) only [go_sem]) <;> rfl); (· exact hA); try (simp (maxSteps := 1000000) (disch := first | exact dq | fail) only [go_sem]))
  (repeat' (first
    | ((first | with_reducible (first | refine aw_seq ?_ | refine aw_region (aops_run ?_)) | (with_reducible refine aw_regionD (fun _ => .p) mixed ?_ (dops_run ?_); (· kernel_rfl)) | (with_reducible refine aw_regionD (fun _ => .r) mixed ?_ (dops_run ?_); (· kernel_rfl)) | with_reducible (first | refine aw_condK ?_ | refine aw_skip ?_ | refine aw_ret ?_ | refine aw_exit ?_ | refine aw_label ?_ | refine aw_block ?_ | refine aw_scope ?_ | refine And.intro ?_ ?_)) <;> (try (simp (maxSteps := 1000000) (disch := first | exact dq | fail) only [go_sem])))
    | (with_reducible (first | refine wantK_split (fun h => ?_) (fun h => ?_) | refine condK_split (fun h => ?_) (fun h => ?_) | refine pickV_split (fun h => ?_) (fun h => ?_)) <;> (try (simp (maxSteps := 1000000) (disch := first | exact dq | fail) only [go_sem] at h)) <;> (try (simp (maxSteps := 1000000) (disch := first | exact dq | fail) only [go_sem, h])))))
  ((first | with_reducible apply left_callf | with_reducible apply leftD_callf | with_reducible apply leftF_callf); (· with_reducible rfl); (· (simp (maxSteps := 1000000) (disch := first | exact dq | fail) only [go_sem]) <;> rfl); (· exact hB); try (simp (maxSteps := 1000000) (disch := first | exact dq | fail) only [go_sem]))
  (repeat' (first
    | ((first | with_reducible (first | refine aw_seq ?_ | refine aw_region (aops_run ?_)) | (with_reducible refine aw_regionD (fun _ => .p) mixed ?_ (dops_run ?_); (· kernel_rfl)) | (with_reducible refine aw_regionD (fun _ => .r) mixed ?_ (dops_run ?_); (· kernel_rfl)) | with_reducible (first | refine aw_condK ?_ | refine aw_skip ?_ | refine aw_ret ?_ | refine aw_exit ?_ | refine aw_label ?_ | refine aw_block ?_ | refine aw_scope ?_ | refine And.intro ?_ ?_)) <;> (try (simp (maxSteps := 1000000) (disch := first | exact dq | fail) only [go_sem, hc1, hc2, eq_self, decide_true])))
    | (with_reducible (first | refine wantK_split (fun h => ?_) (fun h => ?_) | refine condK_split (fun h => ?_) (fun h => ?_) | refine pickV_split (fun h => ?_) (fun h => ?_)) <;> (try (simp (maxSteps := 1000000) (disch := first | exact dq | fail) only [go_sem] at h)) <;> (try (simp (maxSteps := 1000000) (disch := first | exact dq | fail) only [go_sem, h, hc1, hc2, eq_self, decide_true])))))
  all_goals (try omega)
  refine aw_loop (α := Nat) (fun i => ⟨124, sl [(7, .iv (.bool true)), (9, .iv (.int .i64 d)), (14, .iv (inl u)), (16, .iv (inl v)), (18, .iv (.int .i64 i))], [], 0⟩)
    (fun i => i ≤ m.length + 1) (fun i => m.length + 1 - i) 0 (wk_by [] ?_) (by omega) ?_
  · (simp (maxSteps := 1000000) (disch := first | exact dq | fail) only [go_sem])
  rintro i hi
  by_cases h : i < m.length + 1
  · have hc : (i : Int) < u.length := by omega
    have hgu : u[i]? = some (u.getD i 0) := by simp [List.getD, List.getElem?_eq_getElem (show i < u.length by omega)]
    have hgv : v[i]? = some (v.getD i 0) := by simp [List.getD, List.getElem?_eq_getElem (show i < v.length by omega)]
    have hui := hup i (by omega)
    rcases hsh i (by omega) with ⟨g1, g2⟩ | ⟨g1, g2⟩
    · rw [g1] at hgu
      rw [g2] at hgv
      (repeat' (first
    | ((first | with_reducible (first | refine aw_seq ?_ | refine aw_region (aops_run ?_)) | (with_reducible refine aw_regionD (fun _ => .p) mixed ?_ (dops_run ?_); (· kernel_rfl)) | (with_reducible refine aw_regionD (fun _ => .r) mixed ?_ (dops_run ?_); (· kernel_rfl)) | with_reducible (first | refine aw_condK ?_ | refine aw_skip ?_ | refine aw_ret ?_ | refine aw_exit ?_ | refine aw_label ?_ | refine aw_block ?_ | refine aw_scope ?_ | refine And.intro ?_ ?_)) <;> (try (simp (maxSteps := 1000000) (disch := first | exact dq | fail) only [go_sem, hc, hgu, hgv, decide_true, decide_false])))
    | (with_reducible (first | refine wantK_split (fun h => ?_) (fun h => ?_) | refine condK_split (fun h => ?_) (fun h => ?_) | refine pickV_split (fun h => ?_) (fun h => ?_)) <;> (try (simp (maxSteps := 1000000) (disch := first | exact dq | fail) only [go_sem] at h)) <;> (try (simp (maxSteps := 1000000) (disch := first | exact dq | fail) only [go_sem, h, hc, hgu, hgv, decide_true, decide_false])))))
      all_goals (try omega)
      refine ⟨i + 1, by omega, wk_by [] ?_, by omega⟩
      (simp (maxSteps := 1000000) (disch := first | exact dq | fail) only [go_sem])
    · rw [g2] at hgv
      generalize u.getD i 0 = z at *
      have e1 : ¬ (z = -1) := by omega
      have e2 : ¬ (z + d = -1) := by omega
      have e3 : z ≥ 0 := by omega
      (repeat' (first
    | ((first | with_reducible (first | refine aw_seq ?_ | refine aw_region (aops_run ?_)) | (with_reducible refine aw_regionD (fun _ => .p) mixed ?_ (dops_run ?_); (· kernel_rfl)) | (with_reducible refine aw_regionD (fun _ => .r) mixed ?_ (dops_run ?_); (· kernel_rfl)) | with_reducible (first | refine aw_condK ?_ | refine aw_skip ?_ | refine aw_ret ?_ | refine aw_exit ?_ | refine aw_label ?_ | refine aw_block ?_ | refine aw_scope ?_ | refine And.intro ?_ ?_)) <;> (try (simp (maxSteps := 1000000) (disch := first | exact dq | fail) only [go_sem, hc, hgu, hgv, e1, e2, e3, decide_true, decide_false])))
    | (with_reducible (first | refine wantK_split (fun h => ?_) (fun h => ?_) | refine condK_split (fun h => ?_) (fun h => ?_) | refine pickV_split (fun h => ?_) (fun h => ?_)) <;> (try (simp (maxSteps := 1000000) (disch := first | exact dq | fail) only [go_sem] at h)) <;> (try (simp (maxSteps := 1000000) (disch := first | exact dq | fail) only [go_sem, h, hc, hgu, hgv, e1, e2, e3, decide_true, decide_false])))))
      all_goals (try omega)
      refine ⟨i + 1, by omega, wk_by [] ?_, by omega⟩
      (simp (maxSteps := 1000000) (disch := first | exact dq | fail) only [go_sem])
  · obtain rfl : i = m.length + 1 := by omega
    have hc : ¬ (((m.length + 1 : Nat) : Int) < u.length) := by omega
    (repeat' (first
    | ((first | with_reducible (first | refine aw_seq ?_ | refine aw_region (aops_run ?_)) | (with_reducible refine aw_regionD (fun _ => .p) mixed ?_ (dops_run ?_); (· kernel_rfl)) | (with_reducible refine aw_regionD (fun _ => .r) mixed ?_ (dops_run ?_); (· kernel_rfl)) | with_reducible (first | refine aw_condK ?_ | refine aw_skip ?_ | refine aw_ret ?_ | refine aw_exit ?_ | refine aw_label ?_ | refine aw_block ?_ | refine aw_scope ?_ | refine And.intro ?_ ?_)) <;> (try (simp (maxSteps := 1000000) (disch := first | exact dq | fail) only [go_sem, hc, decide_false])))
    | (with_reducible (first | refine wantK_split (fun h => ?_) (fun h => ?_) | refine condK_split (fun h => ?_) (fun h => ?_) | refine pickV_split (fun h => ?_) (fun h => ?_)) <;> (try (simp (maxSteps := 1000000) (disch := first | exact dq | fail) only [go_sem] at h)) <;> (try (simp (maxSteps := 1000000) (disch := first | exact dq | fail) only [go_sem, h, hc, decide_false])))))
    all_goals (try omega)
theorem turn_perm (l : List Int) : (turnL l).Perm (-1 :: l) := by
  have hp := pigeon ((List.range (l.length + 1)).map (fun r => (rwN l r : Int))) (idL (l.length + 1)) (by
    rw [List.nodup_iff_pairwise_ne, List.pairwise_map]
    refine (List.nodup_iff_pairwise_ne.1 List.nodup_range).imp_of_mem (fun {x y} hx hy hxy e => hxy ?_)
    rw [List.mem_range] at hx hy
    have h1 := rk_rw (l := l) (r := x) (by omega)
    have h2 := rk_rw (l := l) (r := y) (by omega)
    rw [← h1, ← h2, show rwN l x = rwN l y by omega]) (fun x hx => by
    obtain ⟨j, hj, rfl⟩ := List.mem_map.1 hx
    rw [List.mem_range] at hj
    have := rw_le (l := l) (r := j) (by omega)
    exact mem_idL.2 ⟨_, by omega, rfl⟩) (by rw [List.length_map, List.length_range, idL_len]; exact Nat.le_refl _)
  have h1 := hp.map (fun x => ahd l x.toNat)
  have e1 : ((List.range (l.length + 1)).map (fun r => (rwN l r : Int))).map (fun x => ahd l x.toNat) = turnL l := by
    unfold turnL
    rw [List.map_map]
    refine List.map_congr_left (fun r _ => ?_)
    simp
  have e2 : (idL (l.length + 1)).map (fun x => ahd l x.toNat) = -1 :: l := by
    unfold idL
    rw [List.map_map]
    apply List.ext_getElem (by simp)
    intro i h1 h2
    rw [List.getElem_map, List.getElem_range]
    cases i with
    | zero => rfl
    | succ i =>
      simp only [Function.comp, List.getElem_cons_succ, Int.toNat_natCast]
      rw [ahd_succ, getD_el (by simpa using h2)]
  rw [e1, e2] at h1
  exact h1
theorem count_step {l : List Int} {i : Nat} (c : Int) (h : i < l.length) : (l.take (i + 1)).count c = (l.take i).count c + (if l.getD i 0 = c then 1 else 0) := by
  rw [take_snoc l h, List.count_append, List.count_singleton]
  simp
set_option maxHeartbeats 2000000 in
theorem TurnedWhole_spec (l : List Int) (n : Int) : PCalls Try.prog 11 [inl l, .int .i64 n] (.bool true) := by
  have em : bitI .and .i64 n 7 = n % 8 := and_maskS n 8 3 (by decide) rfl
  obtain ⟨k, hk⟩ : ∃ k, k = 1 + n % 8 := ⟨_, rfl⟩
  have hk0 : 0 < k ∧ k ≤ 8 := by omega
  have hw := cutS_wrap hk0.1 (by omega)
  have hml := alk_len 100 k l
  have hma := fun i => @alk_at 100 k l i
  have hmr : ∀ x ∈ alk 100 k l, 0 ≤ x := fun x hx => (alk_rng hk0.1 hx).1
  generalize alk 100 k l = m at *
  refine PCalls.of_aw Try.func11 rfl (by unfold Callable; kernel_rfl) (by kernel_rfl) (by simp [Try.ntmps11]) ?_; rw [Try.ntmps11, Try.results11]; (simp (maxSteps := 1000000) (disch := first | exact dq | fail) only [go_sem])
  (repeat' (first
    | ((first | with_reducible (first | refine aw_seq ?_ | refine aw_region (aops_run ?_)) | (with_reducible refine aw_regionD (fun _ => .p) mixed ?_ (dops_run ?_); (· kernel_rfl)) | (with_reducible refine aw_regionD (fun _ => .r) mixed ?_ (dops_run ?_); (· kernel_rfl)) | with_reducible (first | refine aw_condK ?_ | refine aw_skip ?_ | refine aw_ret ?_ | refine aw_exit ?_ | refine aw_label ?_ | refine aw_block ?_ | refine aw_scope ?_ | refine And.intro ?_ ?_)) <;> (try (simp (maxSteps := 1000000) (disch := first | exact dq | fail) only [go_sem])))
    | (with_reducible (first | refine wantK_split (fun h => ?_) (fun h => ?_) | refine condK_split (fun h => ?_) (fun h => ?_) | refine pickV_split (fun h => ?_) (fun h => ?_)) <;> (try (simp (maxSteps := 1000000) (disch := first | exact dq | fail) only [go_sem] at h)) <;> (try (simp (maxSteps := 1000000) (disch := first | exact dq | fail) only [go_sem, h])))))
  ((first | with_reducible apply left_callf | with_reducible apply leftD_callf | with_reducible apply leftF_callf); (· with_reducible rfl); (· (simp (maxSteps := 1000000) (disch := first | exact dq | fail) only [go_sem]) <;> rfl); (· exact awake8_spec); try (simp (maxSteps := 1000000) (disch := first | exact dq | fail) only [go_sem]))
  with_reducible refine aw_seq ?_
  with_reducible refine aw_region (aops_run ?_)
  (simp (maxSteps := 1000000) (disch := first | exact dq | fail) only [go_sem, em])
  simp only [← hk]
  ((with_reducible refine aw_seq ?_); (with_reducible refine aw_region (aops_run ?_)); try (simp (maxSteps := 1000000) (disch := first | exact dq | fail) only [go_sem]))
  refine aw_cut ⟨124, sl [(5, .iv (.bool true)), (6, .iv (.int .i64 k)), (7, .iv (inl m))], [], 0⟩ ?_ ?_
  · (repeat' (first
    | ((first | with_reducible (first | refine aw_seq ?_ | refine aw_region (aops_run ?_)) | (with_reducible refine aw_regionD (fun _ => .p) mixed ?_ (dops_run ?_); (· kernel_rfl)) | (with_reducible refine aw_regionD (fun _ => .r) mixed ?_ (dops_run ?_); (· kernel_rfl)) | with_reducible (first | refine aw_condK ?_ | refine aw_skip ?_ | refine aw_ret ?_ | refine aw_exit ?_ | refine aw_label ?_ | refine aw_block ?_ | refine aw_scope ?_ | refine And.intro ?_ ?_)) <;> (try (simp (maxSteps := 1000000) (disch := first | exact dq | fail) only [go_sem])))
    | (with_reducible (first | refine wantK_split (fun h => ?_) (fun h => ?_) | refine condK_split (fun h => ?_) (fun h => ?_) | refine pickV_split (fun h => ?_) (fun h => ?_)) <;> (try (simp (maxSteps := 1000000) (disch := first | exact dq | fail) only [go_sem] at h)) <;> (try (simp (maxSteps := 1000000) (disch := first | exact dq | fail) only [go_sem, h])))))
    refine aw_loop (α := Nat) (fun i => ⟨124, sl [(0, .iv (inl l)), (5, .iv (.bool true)), (6, .iv (.int .i64 k)), (7, .msl 0 0 i i), (8, .iv (.int .i64 i))], [.row true 3 1 ((m.take i).map (IV.int .i64))], 0⟩)
      (fun i => i ≤ m.length) (fun i => m.length - i) 0 (wk_by [0] ?_) (by omega) ?_
    · (simp (maxSteps := 1000000) (disch := first | exact dq | fail) only [go_sem])
    rintro i hi
    have htl : (m.take i).length = i := by rw [List.length_take]; omega
    by_cases h : i < m.length
    · have c1 : (i : Int) < l.length := by omega
      have c2 : (i : Int) < 100 := by omega
      have ht := take_snoc m h
      rw [hma i h] at ht
      (repeat' (first
    | ((first | with_reducible (first | refine aw_seq ?_ | refine aw_region (aops_run ?_)) | (with_reducible refine aw_regionD (fun _ => .p) mixed ?_ (dops_run ?_); (· kernel_rfl)) | (with_reducible refine aw_regionD (fun _ => .r) mixed ?_ (dops_run ?_); (· kernel_rfl)) | with_reducible (first | refine aw_condK ?_ | refine aw_skip ?_ | refine aw_ret ?_ | refine aw_exit ?_ | refine aw_label ?_ | refine aw_block ?_ | refine aw_scope ?_ | refine And.intro ?_ ?_)) <;> (try (simp (maxSteps := 1000000) (disch := first | exact dq | fail) only [go_sem, htl, hw, c1, c2, decide_true])))
    | (with_reducible (first | refine wantK_split (fun h => ?_) (fun h => ?_) | refine condK_split (fun h => ?_) (fun h => ?_) | refine pickV_split (fun h => ?_) (fun h => ?_)) <;> (try (simp (maxSteps := 1000000) (disch := first | exact dq | fail) only [go_sem] at h)) <;> (try (simp (maxSteps := 1000000) (disch := first | exact dq | fail) only [go_sem, h, htl, hw, c1, c2, decide_true])))))
      all_goals (try omega)
      refine ⟨i + 1, by omega, wk_by [0] ?_, by omega⟩
      (simp (maxSteps := 1000000) (disch := first | exact dq | fail) only [go_sem, ht, List.map_append])
    · have e : m.take i = m := List.take_of_length_le (by omega)
      obtain rfl : i = m.length := by omega
      rw [e]
      by_cases c1 : m.length < l.length
      · have c1' : (m.length : Int) < l.length := by omega
        have c2 : ¬ ((m.length : Int) < 100) := by omega
        (repeat' (first
    | ((first | with_reducible (first | refine aw_seq ?_ | refine aw_region (aops_run ?_)) | (with_reducible refine aw_regionD (fun _ => .p) mixed ?_ (dops_run ?_); (· kernel_rfl)) | (with_reducible refine aw_regionD (fun _ => .r) mixed ?_ (dops_run ?_); (· kernel_rfl)) | with_reducible (first | refine aw_condK ?_ | refine aw_skip ?_ | refine aw_ret ?_ | refine aw_exit ?_ | refine aw_label ?_ | refine aw_block ?_ | refine aw_scope ?_ | refine And.intro ?_ ?_)) <;> (try (simp (maxSteps := 1000000) (disch := first | exact dq | fail) only [go_sem, c1', c2, decide_true, decide_false])))
    | (with_reducible (first | refine wantK_split (fun h => ?_) (fun h => ?_) | refine condK_split (fun h => ?_) (fun h => ?_) | refine pickV_split (fun h => ?_) (fun h => ?_)) <;> (try (simp (maxSteps := 1000000) (disch := first | exact dq | fail) only [go_sem] at h)) <;> (try (simp (maxSteps := 1000000) (disch := first | exact dq | fail) only [go_sem, h, c1', c2, decide_true, decide_false])))))
        all_goals (try omega)
        refine Wk.trans (wk_frz (i := 7) (y := inl m) (M' := [.row false 3 1 (m.map (IV.int .i64))]) ?_) (wk_by [] ?_) <;> (simp (maxSteps := 1000000) (disch := first | exact dq | fail) only [go_sem])
      · have c1' : ¬ ((m.length : Int) < l.length) := by omega
        (repeat' (first
    | ((first | with_reducible (first | refine aw_seq ?_ | refine aw_region (aops_run ?_)) | (with_reducible refine aw_regionD (fun _ => .p) mixed ?_ (dops_run ?_); (· kernel_rfl)) | (with_reducible refine aw_regionD (fun _ => .r) mixed ?_ (dops_run ?_); (· kernel_rfl)) | with_reducible (first | refine aw_condK ?_ | refine aw_skip ?_ | refine aw_ret ?_ | refine aw_exit ?_ | refine aw_label ?_ | refine aw_block ?_ | refine aw_scope ?_ | refine And.intro ?_ ?_)) <;> (try (simp (maxSteps := 1000000) (disch := first | exact dq | fail) only [go_sem, c1', decide_false])))
    | (with_reducible (first | refine wantK_split (fun h => ?_) (fun h => ?_) | refine condK_split (fun h => ?_) (fun h => ?_) | refine pickV_split (fun h => ?_) (fun h => ?_)) <;> (try (simp (maxSteps := 1000000) (disch := first | exact dq | fail) only [go_sem] at h)) <;> (try (simp (maxSteps := 1000000) (disch := first | exact dq | fail) only [go_sem, h, c1', decide_false])))))
        all_goals (try omega)
        refine Wk.trans (wk_frz (i := 7) (y := inl m) (M' := [.row false 3 1 (m.map (IV.int .i64))]) ?_) (wk_by [] ?_) <;> (simp (maxSteps := 1000000) (disch := first | exact dq | fail) only [go_sem])
  have hT := Turn_ok m (by omega) hmr
  have hr := turn_rnd hmr
  have htl := turnL_len m
  have hB := (Back_spec (turnL m) (by omega)).1 hr
  rw [turn_out hmr] at hB
  have hS := RefSameI_spec m m (by omega)
  rw [decide_eq_true rfl] at hS
  have hperm := turn_perm m
  have hneg : ∀ c : Int, c < 0 → m.count c = 0 := fun c hc => List.count_eq_zero.2 (fun hm => by have := hmr c hm; omega)
  have hcnt : ∀ c : Int, (turnL m).count c = (if c = -1 then 1 else 0) + m.count c := fun c => by
    rw [hperm.count_eq, List.count_cons]
    by_cases e : c = -1
    · subst e; simp; omega
    · rw [if_neg (by simpa using fun h => e h.symm), if_neg e]; omega
  generalize turnL m = t at *
  have hdl : (t.length : Int) = (m.length : Int) + 1 := by omega
  (repeat' (first
    | ((first | with_reducible (first | refine aw_seq ?_ | refine aw_region (aops_run ?_)) | (with_reducible refine aw_regionD (fun _ => .p) mixed ?_ (dops_run ?_); (· kernel_rfl)) | (with_reducible refine aw_regionD (fun _ => .r) mixed ?_ (dops_run ?_); (· kernel_rfl)) | with_reducible (first | refine aw_condK ?_ | refine aw_skip ?_ | refine aw_ret ?_ | refine aw_exit ?_ | refine aw_label ?_ | refine aw_block ?_ | refine aw_scope ?_ | refine And.intro ?_ ?_)) <;> (try (simp (maxSteps := 1000000) (disch := first | exact dq | fail) only [go_sem])))
    | (with_reducible (first | refine wantK_split (fun h => ?_) (fun h => ?_) | refine condK_split (fun h => ?_) (fun h => ?_) | refine pickV_split (fun h => ?_) (fun h => ?_)) <;> (try (simp (maxSteps := 1000000) (disch := first | exact dq | fail) only [go_sem] at h)) <;> (try (simp (maxSteps := 1000000) (disch := first | exact dq | fail) only [go_sem, h])))))
  ((first | with_reducible apply left_callf | with_reducible apply leftD_callf | with_reducible apply leftF_callf); (· with_reducible rfl); (· (simp (maxSteps := 1000000) (disch := first | exact dq | fail) only [go_sem]) <;> rfl); (· exact hT); try (simp (maxSteps := 1000000) (disch := first | exact dq | fail) only [go_sem]))
  (repeat' (first
    | ((first | with_reducible (first | refine aw_seq ?_ | refine aw_region (aops_run ?_)) | (with_reducible refine aw_regionD (fun _ => .p) mixed ?_ (dops_run ?_); (· kernel_rfl)) | (with_reducible refine aw_regionD (fun _ => .r) mixed ?_ (dops_run ?_); (· kernel_rfl)) | with_reducible (first | refine aw_condK ?_ | refine aw_skip ?_ | refine aw_ret ?_ | refine aw_exit ?_ | refine aw_label ?_ | refine aw_block ?_ | refine aw_scope ?_ | refine And.intro ?_ ?_)) <;> (try (simp (maxSteps := 1000000) (disch := first | exact dq | fail) only [go_sem])))
    | (with_reducible (first | refine wantK_split (fun h => ?_) (fun h => ?_) | refine condK_split (fun h => ?_) (fun h => ?_) | refine pickV_split (fun h => ?_) (fun h => ?_)) <;> (try (simp (maxSteps := 1000000) (disch := first | exact dq | fail) only [go_sem] at h)) <;> (try (simp (maxSteps := 1000000) (disch := first | exact dq | fail) only [go_sem, h])))))
  ((first | with_reducible apply left_callf | with_reducible apply leftD_callf | with_reducible apply leftF_callf); (· with_reducible rfl); (· (simp (maxSteps := 1000000) (disch := first | exact dq | fail) only [go_sem]) <;> rfl); (· exact hB); try (simp (maxSteps := 1000000) (disch := first | exact dq | fail) only [go_sem]))
  (repeat' (first
    | ((first | with_reducible (first | refine aw_seq ?_ | refine aw_region (aops_run ?_)) | (with_reducible refine aw_regionD (fun _ => .p) mixed ?_ (dops_run ?_); (· kernel_rfl)) | (with_reducible refine aw_regionD (fun _ => .r) mixed ?_ (dops_run ?_); (· kernel_rfl)) | with_reducible (first | refine aw_condK ?_ | refine aw_skip ?_ | refine aw_ret ?_ | refine aw_exit ?_ | refine aw_label ?_ | refine aw_block ?_ | refine aw_scope ?_ | refine And.intro ?_ ?_)) <;> (try (simp (maxSteps := 1000000) (disch := first | exact dq | fail) only [go_sem])))
    | (with_reducible (first | refine wantK_split (fun h => ?_) (fun h => ?_) | refine condK_split (fun h => ?_) (fun h => ?_) | refine pickV_split (fun h => ?_) (fun h => ?_)) <;> (try (simp (maxSteps := 1000000) (disch := first | exact dq | fail) only [go_sem] at h)) <;> (try (simp (maxSteps := 1000000) (disch := first | exact dq | fail) only [go_sem, h])))))
  ((first | with_reducible apply left_callf | with_reducible apply leftD_callf | with_reducible apply leftF_callf); (· with_reducible rfl); (· (simp (maxSteps := 1000000) (disch := first | exact dq | fail) only [go_sem]) <;> rfl); (· exact hS); try (simp (maxSteps := 1000000) (disch := first | exact dq | fail) only [go_sem]))
  (repeat' (first
    | ((first | with_reducible (first | refine aw_seq ?_ | refine aw_region (aops_run ?_)) | (with_reducible refine aw_regionD (fun _ => .p) mixed ?_ (dops_run ?_); (· kernel_rfl)) | (with_reducible refine aw_regionD (fun _ => .r) mixed ?_ (dops_run ?_); (· kernel_rfl)) | with_reducible (first | refine aw_condK ?_ | refine aw_skip ?_ | refine aw_ret ?_ | refine aw_exit ?_ | refine aw_label ?_ | refine aw_block ?_ | refine aw_scope ?_ | refine And.intro ?_ ?_)) <;> (try (simp (maxSteps := 1000000) (disch := first | exact dq | fail) only [go_sem, hdl, eq_self, decide_true])))
    | (with_reducible (first | refine wantK_split (fun h => ?_) (fun h => ?_) | refine condK_split (fun h => ?_) (fun h => ?_) | refine pickV_split (fun h => ?_) (fun h => ?_)) <;> (try (simp (maxSteps := 1000000) (disch := first | exact dq | fail) only [go_sem] at h)) <;> (try (simp (maxSteps := 1000000) (disch := first | exact dq | fail) only [go_sem, h, hdl, eq_self, decide_true])))))
  all_goals (try omega)
  refine aw_loop (α := Nat) (fun c => ⟨124, sl [(5, .iv (.bool true)), (6, .iv (.int .i64 k)), (7, .iv (inl m)), (9, .iv (inl t)), (14, .iv (.int .i64 ((c : Int) - 1)))], [], 0⟩)
    (fun c => (c : Int) ≤ k + 1) (fun c => (k + 1 - c).toNat) 0 (wk_by [] ?_) (by omega) ?_
  · (simp (maxSteps := 1000000) (disch := first | exact dq | fail) only [go_sem])
  rintro c hc
  by_cases h : (c : Int) - 1 < k
  · obtain ⟨v, hv⟩ : ∃ v : Int, v = (c : Int) - 1 := ⟨_, rfl⟩
    have hcs := fun i => @count_step m i v
    have hct := fun i => @count_step t i v
    rw [← hv]
    rw [← hv] at h
    have hv1 : -1 ≤ v := by omega
    (repeat' (first
    | ((first | with_reducible (first | refine aw_seq ?_ | refine aw_region (aops_run ?_)) | (with_reducible refine aw_regionD (fun _ => .p) mixed ?_ (dops_run ?_); (· kernel_rfl)) | (with_reducible refine aw_regionD (fun _ => .r) mixed ?_ (dops_run ?_); (· kernel_rfl)) | with_reducible (first | refine aw_condK ?_ | refine aw_skip ?_ | refine aw_ret ?_ | refine aw_exit ?_ | refine aw_label ?_ | refine aw_block ?_ | refine aw_scope ?_ | refine And.intro ?_ ?_)) <;> (try (simp (maxSteps := 1000000) (disch := first | exact dq | fail) only [go_sem, h, decide_true])))
    | (with_reducible (first | refine wantK_split (fun h => ?_) (fun h => ?_) | refine condK_split (fun h => ?_) (fun h => ?_) | refine pickV_split (fun h => ?_) (fun h => ?_)) <;> (try (simp (maxSteps := 1000000) (disch := first | exact dq | fail) only [go_sem] at h)) <;> (try (simp (maxSteps := 1000000) (disch := first | exact dq | fail) only [go_sem, h, h, decide_true])))))
    all_goals (try omega)
    refine aw_loop (α := Nat) (fun i => ⟨124, sl [(5, .iv (.bool true)), (6, .iv (.int .i64 k)), (7, .iv (inl m)), (9, .iv (inl t)), (14, .iv (.int .i64 v)), (15, .iv (.int .i64 ((m.take i).count v : Nat))), (16, .iv (.int .i64 i))], [], 0⟩)
      (fun i => i ≤ m.length ∧ (m.take i).count v ≤ i) (fun i => m.length - i) 0 (wk_by [] ?_) ⟨by omega, by simp⟩ ?_
    · (simp (maxSteps := 1000000) (disch := first | exact dq | fail) only [go_sem])
      rfl
    rintro i ⟨hi, hci⟩
    by_cases hlt : i < m.length
    · have hs := hcs i hlt
      have hc1 : (i : Int) < m.length := by omega
      by_cases g : m.getD i 0 = v
      · rw [if_pos g] at hs
        (repeat' (first
    | ((first | with_reducible (first | refine aw_seq ?_ | refine aw_region (aops_run ?_)) | (with_reducible refine aw_regionD (fun _ => .p) mixed ?_ (dops_run ?_); (· kernel_rfl)) | (with_reducible refine aw_regionD (fun _ => .r) mixed ?_ (dops_run ?_); (· kernel_rfl)) | with_reducible (first | refine aw_condK ?_ | refine aw_skip ?_ | refine aw_ret ?_ | refine aw_exit ?_ | refine aw_label ?_ | refine aw_block ?_ | refine aw_scope ?_ | refine And.intro ?_ ?_)) <;> (try (simp (maxSteps := 1000000) (disch := first | exact dq | fail) only [go_sem, hc1, g, eq_self, decide_true])))
    | (with_reducible (first | refine wantK_split (fun h => ?_) (fun h => ?_) | refine condK_split (fun h => ?_) (fun h => ?_) | refine pickV_split (fun h => ?_) (fun h => ?_)) <;> (try (simp (maxSteps := 1000000) (disch := first | exact dq | fail) only [go_sem] at h)) <;> (try (simp (maxSteps := 1000000) (disch := first | exact dq | fail) only [go_sem, h, hc1, g, eq_self, decide_true])))))
        all_goals (try omega)
        refine ⟨i + 1, ⟨by omega, by omega⟩, wk_by [] ?_, by omega⟩
        (simp (maxSteps := 1000000) (disch := first | exact dq | fail) only [go_sem, hs])
      · rw [if_neg g] at hs
        (repeat' (first
    | ((first | with_reducible (first | refine aw_seq ?_ | refine aw_region (aops_run ?_)) | (with_reducible refine aw_regionD (fun _ => .p) mixed ?_ (dops_run ?_); (· kernel_rfl)) | (with_reducible refine aw_regionD (fun _ => .r) mixed ?_ (dops_run ?_); (· kernel_rfl)) | with_reducible (first | refine aw_condK ?_ | refine aw_skip ?_ | refine aw_ret ?_ | refine aw_exit ?_ | refine aw_label ?_ | refine aw_block ?_ | refine aw_scope ?_ | refine And.intro ?_ ?_)) <;> (try (simp (maxSteps := 1000000) (disch := first | exact dq | fail) only [go_sem, hc1, g, decide_true, decide_false])))
    | (with_reducible (first | refine wantK_split (fun h => ?_) (fun h => ?_) | refine condK_split (fun h => ?_) (fun h => ?_) | refine pickV_split (fun h => ?_) (fun h => ?_)) <;> (try (simp (maxSteps := 1000000) (disch := first | exact dq | fail) only [go_sem] at h)) <;> (try (simp (maxSteps := 1000000) (disch := first | exact dq | fail) only [go_sem, h, hc1, g, decide_true, decide_false])))))
        all_goals (try omega)
        refine ⟨i + 1, ⟨by omega, by omega⟩, wk_by [] ?_, by omega⟩
        (simp (maxSteps := 1000000) (disch := first | exact dq | fail) only [go_sem, hs])
    · obtain rfl : i = m.length := by omega
      have hc1 : ¬ ((m.length : Int) < m.length) := by omega
      rw [List.take_length] at hci ⊢
      have hcv := hcnt v
      have hnv := hneg v
      obtain ⟨a, ha⟩ : ∃ a : Nat, m.count v = a := ⟨_, rfl⟩
      rw [ha] at hci hcv hnv ⊢
      (repeat' (first
    | ((first | with_reducible (first | refine aw_seq ?_ | refine aw_region (aops_run ?_)) | (with_reducible refine aw_regionD (fun _ => .p) mixed ?_ (dops_run ?_); (· kernel_rfl)) | (with_reducible refine aw_regionD (fun _ => .r) mixed ?_ (dops_run ?_); (· kernel_rfl)) | with_reducible (first | refine aw_condK ?_ | refine aw_skip ?_ | refine aw_ret ?_ | refine aw_exit ?_ | refine aw_label ?_ | refine aw_block ?_ | refine aw_scope ?_ | refine And.intro ?_ ?_)) <;> (try (simp (maxSteps := 1000000) (disch := first | exact dq | fail) only [go_sem, hc1, decide_false])))
    | (with_reducible (first | refine wantK_split (fun h => ?_) (fun h => ?_) | refine condK_split (fun h => ?_) (fun h => ?_) | refine pickV_split (fun h => ?_) (fun h => ?_)) <;> (try (simp (maxSteps := 1000000) (disch := first | exact dq | fail) only [go_sem] at h)) <;> (try (simp (maxSteps := 1000000) (disch := first | exact dq | fail) only [go_sem, h, hc1, decide_false])))))
      all_goals (try omega)
      refine aw_loop (α := Nat) (fun i => ⟨124, sl [(5, .iv (.bool true)), (6, .iv (.int .i64 k)), (7, .iv (inl m)), (9, .iv (inl t)), (14, .iv (.int .i64 v)), (15, .iv (.int .i64 ((a : Int) - ((t.take i).count v : Nat)))), (17, .iv (.int .i64 i))], [], 0⟩)
        (fun i => i ≤ t.length ∧ (t.take i).count v ≤ i) (fun i => t.length - i) 0 (wk_by [] ?_) ⟨by omega, by simp⟩ ?_
      · (simp (maxSteps := 1000000) (disch := first | exact dq | fail) only [go_sem])
        simp
      clear hi hlt
      rintro i ⟨hi, hci2⟩
      by_cases hlt : i < t.length
      · have hs := hct i hlt
        have hc2 : (i : Int) < t.length := by omega
        by_cases g : t.getD i 0 = v
        · rw [if_pos g] at hs
          (repeat' (first
    | ((first | with_reducible (first | refine aw_seq ?_ | refine aw_region (aops_run ?_)) | (with_reducible refine aw_regionD (fun _ => .p) mixed ?_ (dops_run ?_); (· kernel_rfl)) | (with_reducible refine aw_regionD (fun _ => .r) mixed ?_ (dops_run ?_); (· kernel_rfl)) | with_reducible (first | refine aw_condK ?_ | refine aw_skip ?_ | refine aw_ret ?_ | refine aw_exit ?_ | refine aw_label ?_ | refine aw_block ?_ | refine aw_scope ?_ | refine And.intro ?_ ?_)) <;> (try (simp (maxSteps := 1000000) (disch := first | exact dq | fail) only [go_sem, hc2, g, eq_self, decide_true])))
    | (with_reducible (first | refine wantK_split (fun h => ?_) (fun h => ?_) | refine condK_split (fun h => ?_) (fun h => ?_) | refine pickV_split (fun h => ?_) (fun h => ?_)) <;> (try (simp (maxSteps := 1000000) (disch := first | exact dq | fail) only [go_sem] at h)) <;> (try (simp (maxSteps := 1000000) (disch := first | exact dq | fail) only [go_sem, h, hc2, g, eq_self, decide_true])))))
          all_goals (try omega)
          refine ⟨i + 1, ⟨by omega, by omega⟩, wk_by [] ?_, by omega⟩
          (simp (maxSteps := 1000000) (disch := first | exact dq | fail) only [go_sem, hs])
          congr 2; omega
        · rw [if_neg g] at hs
          (repeat' (first
    | ((first | with_reducible (first | refine aw_seq ?_ | refine aw_region (aops_run ?_)) | (with_reducible refine aw_regionD (fun _ => .p) mixed ?_ (dops_run ?_); (· kernel_rfl)) | (with_reducible refine aw_regionD (fun _ => .r) mixed ?_ (dops_run ?_); (· kernel_rfl)) | with_reducible (first | refine aw_condK ?_ | refine aw_skip ?_ | refine aw_ret ?_ | refine aw_exit ?_ | refine aw_label ?_ | refine aw_block ?_ | refine aw_scope ?_ | refine And.intro ?_ ?_)) <;> (try (simp (maxSteps := 1000000) (disch := first | exact dq | fail) only [go_sem, hc2, g, decide_true, decide_false])))
    | (with_reducible (first | refine wantK_split (fun h => ?_) (fun h => ?_) | refine condK_split (fun h => ?_) (fun h => ?_) | refine pickV_split (fun h => ?_) (fun h => ?_)) <;> (try (simp (maxSteps := 1000000) (disch := first | exact dq | fail) only [go_sem] at h)) <;> (try (simp (maxSteps := 1000000) (disch := first | exact dq | fail) only [go_sem, h, hc2, g, decide_true, decide_false])))))
          all_goals (try omega)
          refine ⟨i + 1, ⟨by omega, by omega⟩, wk_by [] ?_, by omega⟩
          (simp (maxSteps := 1000000) (disch := first | exact dq | fail) only [go_sem, hs])
      · obtain rfl : i = t.length := by omega
        have hc2 : ¬ ((t.length : Int) < t.length) := by omega
        rw [List.take_length, hcv]
        by_cases e : v = -1
        · have hz := hnv (by omega)
          have hge : ¬ (v ≥ 0) := by omega
          have hlt0 : v < 0 := by omega
          rw [if_pos e, hz]
          (repeat' (first
    | ((first | with_reducible (first | refine aw_seq ?_ | refine aw_region (aops_run ?_)) | (with_reducible refine aw_regionD (fun _ => .p) mixed ?_ (dops_run ?_); (· kernel_rfl)) | (with_reducible refine aw_regionD (fun _ => .r) mixed ?_ (dops_run ?_); (· kernel_rfl)) | with_reducible (first | refine aw_condK ?_ | refine aw_skip ?_ | refine aw_ret ?_ | refine aw_exit ?_ | refine aw_label ?_ | refine aw_block ?_ | refine aw_scope ?_ | refine And.intro ?_ ?_)) <;> (try (simp (maxSteps := 1000000) (disch := first | exact dq | fail) only [go_sem, hc2, hge, hlt0, decide_true, decide_false])))
    | (with_reducible (first | refine wantK_split (fun h => ?_) (fun h => ?_) | refine condK_split (fun h => ?_) (fun h => ?_) | refine pickV_split (fun h => ?_) (fun h => ?_)) <;> (try (simp (maxSteps := 1000000) (disch := first | exact dq | fail) only [go_sem] at h)) <;> (try (simp (maxSteps := 1000000) (disch := first | exact dq | fail) only [go_sem, h, hc2, hge, hlt0, decide_true, decide_false])))))
          all_goals (try omega)
          refine ⟨c + 1, by omega, wk_by [] ?_, by omega⟩
          (simp (maxSteps := 1000000) (disch := first | exact dq | fail) only [go_sem])
          congr 2; omega
        · have hge : v ≥ 0 := by omega
          have hlt0 : ¬ (v < 0) := by omega
          have hz : (a : Int) - ((0 + a : Nat) : Int) = 0 := by omega
          rw [if_neg e, hz]
          (repeat' (first
    | ((first | with_reducible (first | refine aw_seq ?_ | refine aw_region (aops_run ?_)) | (with_reducible refine aw_regionD (fun _ => .p) mixed ?_ (dops_run ?_); (· kernel_rfl)) | (with_reducible refine aw_regionD (fun _ => .r) mixed ?_ (dops_run ?_); (· kernel_rfl)) | with_reducible (first | refine aw_condK ?_ | refine aw_skip ?_ | refine aw_ret ?_ | refine aw_exit ?_ | refine aw_label ?_ | refine aw_block ?_ | refine aw_scope ?_ | refine And.intro ?_ ?_)) <;> (try (simp (maxSteps := 1000000) (disch := first | exact dq | fail) only [go_sem, hc2, hge, hlt0, decide_true, decide_false])))
    | (with_reducible (first | refine wantK_split (fun h => ?_) (fun h => ?_) | refine condK_split (fun h => ?_) (fun h => ?_) | refine pickV_split (fun h => ?_) (fun h => ?_)) <;> (try (simp (maxSteps := 1000000) (disch := first | exact dq | fail) only [go_sem] at h)) <;> (try (simp (maxSteps := 1000000) (disch := first | exact dq | fail) only [go_sem, h, hc2, hge, hlt0, decide_true, decide_false])))))
          all_goals (try omega)
          refine ⟨c + 1, by omega, wk_by [] ?_, by omega⟩
          (simp (maxSteps := 1000000) (disch := first | exact dq | fail) only [go_sem])
          congr 2; omega
  · (repeat' (first
    | ((first | with_reducible (first | refine aw_seq ?_ | refine aw_region (aops_run ?_)) | (with_reducible refine aw_regionD (fun _ => .p) mixed ?_ (dops_run ?_); (· kernel_rfl)) | (with_reducible refine aw_regionD (fun _ => .r) mixed ?_ (dops_run ?_); (· kernel_rfl)) | with_reducible (first | refine aw_condK ?_ | refine aw_skip ?_ | refine aw_ret ?_ | refine aw_exit ?_ | refine aw_label ?_ | refine aw_block ?_ | refine aw_scope ?_ | refine And.intro ?_ ?_)) <;> (try (simp (maxSteps := 1000000) (disch := first | exact dq | fail) only [go_sem, h, decide_false])))
    | (with_reducible (first | refine wantK_split (fun h => ?_) (fun h => ?_) | refine condK_split (fun h => ?_) (fun h => ?_) | refine pickV_split (fun h => ?_) (fun h => ?_)) <;> (try (simp (maxSteps := 1000000) (disch := first | exact dq | fail) only [go_sem] at h)) <;> (try (simp (maxSteps := 1000000) (disch := first | exact dq | fail) only [go_sem, h, h, decide_false])))))
    all_goals (try omega)
end Go.Proofs.Ytejhomoafhnipaa.AM
