
/- Chapter 7: Ranks, slices.Equal, the document's Alike and Common; Common. No condition but lengths that fit. -/
import Derived.Test.YtejhomoafhnipaaSC
set_option linter.unusedVariables false
set_option linter.unusedSimpArgs false
set_option maxRecDepth 20000
namespace Go.Proofs.Ytejhomoafhnipaa.AM
open Go Go.RowKit

theorem saL_all (l : List Int) : allB (saL l) = true := allB_yes (fun i hi => (saN_mem l _ _).2 (by rw [saL_len] at hi; omega))
def rkL (l : List Int) : List Int := invL (saL l)
theorem rkL_len (l : List Int) : (rkL l).length = l.length := by rw [rkL, invL_len, saL_len]
theorem saL_rng (l : List Int) {r : Nat} (h : r < l.length) : 0 ≤ (saL l).getD r 0 ∧ (saL l).getD r 0 < l.length := by
  have hm : (saL l).getD r 0 ∈ saL l := getD_mem (by rw [saL_len]; exact h)
  exact ((saL_sa l).2 _).1 hm
theorem rk_sa {l : List Int} {r : Nat} (h : r < l.length) : (rkL l).getD ((saL l).getD r 0).toNat 0 = r := invL_at (saL_all l) (by rw [saL_len]; exact h)
theorem sa_rk2 {l : List Int} {i : Nat} (h : i < l.length) : 0 ≤ (rkL l).getD i 0 ∧ (rkL l).getD i 0 < l.length ∧ (saL l).getD ((rkL l).getD i 0).toNat 0 = i := by
  have h1 := (allB_pm (invL_all (saL_all l))).rng i (by rw [invL_len, saL_len]; exact h)
  have h2 := invL_at (invL_all (saL_all l)) (j := i) (by rw [invL_len, saL_len]; exact h)
  rw [invL_back (saL_all l)] at h2
  rw [invL_len, saL_len] at h1
  exact ⟨h1.1, h1.2, h2⟩
theorem Ranks7_spec (l : List Int) (hl : l.length ≤ 100000) : PCalls Try.prog 28 [inl l] (inl (rkL l)) := by
  have hA := Array_any l hl
  obtain ⟨q, e, h1, h2, h3⟩ := Inverse_spec (saL l) (by rw [saL_len]; omega)
  obtain ⟨rfl, rfl⟩ := h2 (saL_all l)
  refine PCalls.of_aw Try.func28 rfl (by unfold Callable; kernel_rfl) (by kernel_rfl) (by simp [Try.ntmps28]) ?_; rw [Try.ntmps28, Try.results28]; (simp (maxSteps := 1000000) (disch := first | exact dq | fail) only [go_sem])
  (repeat' (first
    | ((first | with_reducible (first | refine aw_seq ?_ | refine aw_region (aops_run ?_)) | (with_reducible refine aw_regionD (fun _ => .p) mixed ?_ (dops_run ?_); (· kernel_rfl)) | (with_reducible refine aw_regionD (fun _ => .r) mixed ?_ (dops_run ?_); (· kernel_rfl)) | with_reducible (first | refine aw_condK ?_ | refine aw_skip ?_ | refine aw_ret ?_ | refine aw_exit ?_ | refine aw_label ?_ | refine aw_block ?_ | refine aw_scope ?_ | refine And.intro ?_ ?_)) <;> (try (simp (maxSteps := 1000000) (disch := first | exact dq | fail) only [go_sem])))
    | (with_reducible (first | refine wantK_split (fun h => ?_) (fun h => ?_) | refine condK_split (fun h => ?_) (fun h => ?_) | refine pickV_split (fun h => ?_) (fun h => ?_)) <;> (try (simp (maxSteps := 1000000) (disch := first | exact dq | fail) only [go_sem] at h)) <;> (try (simp (maxSteps := 1000000) (disch := first | exact dq | fail) only [go_sem, h])))))
  ((first | with_reducible apply left_callf | with_reducible apply leftD_callf | with_reducible apply leftF_callf); (· with_reducible rfl); (· (simp (maxSteps := 1000000) (disch := first | exact dq | fail) only [go_sem]) <;> rfl); (· exact hA); try (simp (maxSteps := 1000000) (disch := first | exact dq | fail) only [go_sem]))
  (repeat' (first
    | ((first | with_reducible (first | refine aw_seq ?_ | refine aw_region (aops_run ?_)) | (with_reducible refine aw_regionD (fun _ => .p) mixed ?_ (dops_run ?_); (· kernel_rfl)) | (with_reducible refine aw_regionD (fun _ => .r) mixed ?_ (dops_run ?_); (· kernel_rfl)) | with_reducible (first | refine aw_condK ?_ | refine aw_skip ?_ | refine aw_ret ?_ | refine aw_exit ?_ | refine aw_label ?_ | refine aw_block ?_ | refine aw_scope ?_ | refine And.intro ?_ ?_)) <;> (try (simp (maxSteps := 1000000) (disch := first | exact dq | fail) only [go_sem])))
    | (with_reducible (first | refine wantK_split (fun h => ?_) (fun h => ?_) | refine condK_split (fun h => ?_) (fun h => ?_) | refine pickV_split (fun h => ?_) (fun h => ?_)) <;> (try (simp (maxSteps := 1000000) (disch := first | exact dq | fail) only [go_sem] at h)) <;> (try (simp (maxSteps := 1000000) (disch := first | exact dq | fail) only [go_sem, h])))))
  ((first | with_reducible apply left_callf | with_reducible apply leftD_callf | with_reducible apply leftF_callf); (· with_reducible rfl); (· (simp (maxSteps := 1000000) (disch := first | exact dq | fail) only [go_sem]) <;> rfl); (· exact h1); try (simp (maxSteps := 1000000) (disch := first | exact dq | fail) only [go_sem]))
  (repeat' (first
    | ((first | with_reducible (first | refine aw_seq ?_ | refine aw_region (aops_run ?_)) | (with_reducible refine aw_regionD (fun _ => .p) mixed ?_ (dops_run ?_); (· kernel_rfl)) | (with_reducible refine aw_regionD (fun _ => .r) mixed ?_ (dops_run ?_); (· kernel_rfl)) | with_reducible (first | refine aw_condK ?_ | refine aw_skip ?_ | refine aw_ret ?_ | refine aw_exit ?_ | refine aw_label ?_ | refine aw_block ?_ | refine aw_scope ?_ | refine And.intro ?_ ?_)) <;> (try (simp (maxSteps := 1000000) (disch := first | exact dq | fail) only [go_sem])))
    | (with_reducible (first | refine wantK_split (fun h => ?_) (fun h => ?_) | refine condK_split (fun h => ?_) (fun h => ?_) | refine pickV_split (fun h => ?_) (fun h => ?_)) <;> (try (simp (maxSteps := 1000000) (disch := first | exact dq | fail) only [go_sem] at h)) <;> (try (simp (maxSteps := 1000000) (disch := first | exact dq | fail) only [go_sem, h])))))
  rfl
theorem Equal_spec (a b : List Int) (ha : a.length ≤ 1000000) : PCalls Try.prog 40 [inl a, inl b] (.bool (decide (a = b))) := by
  by_cases hlen : a.length = b.length
  · have hb : (b.length : Int) = a.length := by omega
    refine PCalls.of_aw Try.func40 rfl (by unfold Callable; kernel_rfl) (by kernel_rfl) (by simp [Try.ntmps40]) ?_; rw [Try.ntmps40, Try.results40]; (simp (maxSteps := 1000000) (disch := first | exact dq | fail) only [go_sem])
    (repeat' (first
    | ((first | with_reducible (first | refine aw_seq ?_ | refine aw_region (aops_run ?_)) | (with_reducible refine aw_regionD (fun _ => .p) mixed ?_ (dops_run ?_); (· kernel_rfl)) | (with_reducible refine aw_regionD (fun _ => .r) mixed ?_ (dops_run ?_); (· kernel_rfl)) | with_reducible (first | refine aw_condK ?_ | refine aw_skip ?_ | refine aw_ret ?_ | refine aw_exit ?_ | refine aw_label ?_ | refine aw_block ?_ | refine aw_scope ?_ | refine And.intro ?_ ?_)) <;> (try (simp (maxSteps := 1000000) (disch := first | exact dq | fail) only [go_sem, hb, eq_self, decide_true])))
    | (with_reducible (first | refine wantK_split (fun h => ?_) (fun h => ?_) | refine condK_split (fun h => ?_) (fun h => ?_) | refine pickV_split (fun h => ?_) (fun h => ?_)) <;> (try (simp (maxSteps := 1000000) (disch := first | exact dq | fail) only [go_sem] at h)) <;> (try (simp (maxSteps := 1000000) (disch := first | exact dq | fail) only [go_sem, h, hb, eq_self, decide_true])))))
    all_goals (try omega)
    refine aw_loop (α := Nat) (fun i => ⟨26, sl [(0, .iv (inl a)), (1, .iv (inl b)), (12, .iv (.int .i64 a.length)), (13, .iv (.int .i64 i))], [], 0⟩)
      (fun i => i ≤ a.length ∧ ∀ j, j < i → a.getD j 0 = b.getD j 0) (fun i => a.length - i) 0 (wk_by [] ?_) ⟨by omega, fun j hj => by omega⟩ ?_
    · (simp (maxSteps := 1000000) (disch := first | exact dq | fail) only [go_sem])
    rintro i ⟨hi, he⟩
    by_cases h : i < a.length
    · by_cases g : a.getD i 0 = b.getD i 0
      · (repeat' (first
    | ((first | with_reducible (first | refine aw_seq ?_ | refine aw_region (aops_run ?_)) | (with_reducible refine aw_regionD (fun _ => .p) mixed ?_ (dops_run ?_); (· kernel_rfl)) | (with_reducible refine aw_regionD (fun _ => .r) mixed ?_ (dops_run ?_); (· kernel_rfl)) | with_reducible (first | refine aw_condK ?_ | refine aw_skip ?_ | refine aw_ret ?_ | refine aw_exit ?_ | refine aw_label ?_ | refine aw_block ?_ | refine aw_scope ?_ | refine And.intro ?_ ?_)) <;> (try (simp (maxSteps := 1000000) (disch := first | exact dq | fail) only [go_sem, g, decide_true, decide_false])))
    | (with_reducible (first | refine wantK_split (fun h => ?_) (fun h => ?_) | refine condK_split (fun h => ?_) (fun h => ?_) | refine pickV_split (fun h => ?_) (fun h => ?_)) <;> (try (simp (maxSteps := 1000000) (disch := first | exact dq | fail) only [go_sem] at h)) <;> (try (simp (maxSteps := 1000000) (disch := first | exact dq | fail) only [go_sem, h, g, decide_true, decide_false])))))
        all_goals (try omega)
        refine ⟨i + 1, ⟨by omega, fun j hj => ?_⟩, wk_by [] ?_, by omega⟩
        · by_cases e : j = i
          · subst e; exact g
          · exact he j (by omega)
        · (simp (maxSteps := 1000000) (disch := first | exact dq | fail) only [go_sem])
      · have hne : decide (a = b) = false := decide_eq_false (fun e => g (by rw [e]))
        rw [hne]
        (repeat' (first
    | ((first | with_reducible (first | refine aw_seq ?_ | refine aw_region (aops_run ?_)) | (with_reducible refine aw_regionD (fun _ => .p) mixed ?_ (dops_run ?_); (· kernel_rfl)) | (with_reducible refine aw_regionD (fun _ => .r) mixed ?_ (dops_run ?_); (· kernel_rfl)) | with_reducible (first | refine aw_condK ?_ | refine aw_skip ?_ | refine aw_ret ?_ | refine aw_exit ?_ | refine aw_label ?_ | refine aw_block ?_ | refine aw_scope ?_ | refine And.intro ?_ ?_)) <;> (try (simp (maxSteps := 1000000) (disch := first | exact dq | fail) only [go_sem, g, decide_true, decide_false])))
    | (with_reducible (first | refine wantK_split (fun h => ?_) (fun h => ?_) | refine condK_split (fun h => ?_) (fun h => ?_) | refine pickV_split (fun h => ?_) (fun h => ?_)) <;> (try (simp (maxSteps := 1000000) (disch := first | exact dq | fail) only [go_sem] at h)) <;> (try (simp (maxSteps := 1000000) (disch := first | exact dq | fail) only [go_sem, h, g, decide_true, decide_false])))))
        all_goals (try omega)
    · have hab : a = b := List.ext_getElem hlen (fun j h1 h2 => by
        have := he j (by omega)
        rwa [getD_el h1, getD_el h2] at this)
      rw [decide_eq_true hab]
      (repeat' (first
    | ((first | with_reducible (first | refine aw_seq ?_ | refine aw_region (aops_run ?_)) | (with_reducible refine aw_regionD (fun _ => .p) mixed ?_ (dops_run ?_); (· kernel_rfl)) | (with_reducible refine aw_regionD (fun _ => .r) mixed ?_ (dops_run ?_); (· kernel_rfl)) | with_reducible (first | refine aw_condK ?_ | refine aw_skip ?_ | refine aw_ret ?_ | refine aw_exit ?_ | refine aw_label ?_ | refine aw_block ?_ | refine aw_scope ?_ | refine And.intro ?_ ?_)) <;> (try (simp (maxSteps := 1000000) (disch := first | exact dq | fail) only [go_sem])))
    | (with_reducible (first | refine wantK_split (fun h => ?_) (fun h => ?_) | refine condK_split (fun h => ?_) (fun h => ?_) | refine pickV_split (fun h => ?_) (fun h => ?_)) <;> (try (simp (maxSteps := 1000000) (disch := first | exact dq | fail) only [go_sem] at h)) <;> (try (simp (maxSteps := 1000000) (disch := first | exact dq | fail) only [go_sem, h])))))
      all_goals (try omega)
  · have hb : ¬ ((a.length : Int) = b.length) := by omega
    have hne : decide (a = b) = false := decide_eq_false (fun e => hlen (by rw [e]))
    rw [hne]
    refine PCalls.of_aw Try.func40 rfl (by unfold Callable; kernel_rfl) (by kernel_rfl) (by simp [Try.ntmps40]) ?_; rw [Try.ntmps40, Try.results40]; (simp (maxSteps := 1000000) (disch := first | exact dq | fail) only [go_sem])
    (repeat' (first
    | ((first | with_reducible (first | refine aw_seq ?_ | refine aw_region (aops_run ?_)) | (with_reducible refine aw_regionD (fun _ => .p) mixed ?_ (dops_run ?_); (· kernel_rfl)) | (with_reducible refine aw_regionD (fun _ => .r) mixed ?_ (dops_run ?_); (· kernel_rfl)) | with_reducible (first | refine aw_condK ?_ | refine aw_skip ?_ | refine aw_ret ?_ | refine aw_exit ?_ | refine aw_label ?_ | refine aw_block ?_ | refine aw_scope ?_ | refine And.intro ?_ ?_)) <;> (try (simp (maxSteps := 1000000) (disch := first | exact dq | fail) only [go_sem, hb, decide_false])))
    | (with_reducible (first | refine wantK_split (fun h => ?_) (fun h => ?_) | refine condK_split (fun h => ?_) (fun h => ?_) | refine pickV_split (fun h => ?_) (fun h => ?_)) <;> (try (simp (maxSteps := 1000000) (disch := first | exact dq | fail) only [go_sem] at h)) <;> (try (simp (maxSteps := 1000000) (disch := first | exact dq | fail) only [go_sem, h, hb, decide_false])))))
    all_goals (try omega)
theorem Alike_spec (a b : List Int) (ha : a.length ≤ 1000000) (hb : b.length ≤ 1000000) : PCalls Try.prog 26 [inl a, inl b] (.int .i64 (lcp a b)) := by
  have hle := lcp_le a b
  refine PCalls.of_aw Try.func26 rfl (by unfold Callable; kernel_rfl) (by kernel_rfl) (by simp [Try.ntmps26]) ?_; rw [Try.ntmps26, Try.results26]; (simp (maxSteps := 1000000) (disch := first | exact dq | fail) only [go_sem])
  (repeat' (first
    | ((first | with_reducible (first | refine aw_seq ?_ | refine aw_region (aops_run ?_)) | (with_reducible refine aw_regionD (fun _ => .p) mixed ?_ (dops_run ?_); (· kernel_rfl)) | (with_reducible refine aw_regionD (fun _ => .r) mixed ?_ (dops_run ?_); (· kernel_rfl)) | with_reducible (first | refine aw_condK ?_ | refine aw_skip ?_ | refine aw_ret ?_ | refine aw_exit ?_ | refine aw_label ?_ | refine aw_block ?_ | refine aw_scope ?_ | refine And.intro ?_ ?_)) <;> (try (simp (maxSteps := 1000000) (disch := first | exact dq | fail) only [go_sem])))
    | (with_reducible (first | refine wantK_split (fun h => ?_) (fun h => ?_) | refine condK_split (fun h => ?_) (fun h => ?_) | refine pickV_split (fun h => ?_) (fun h => ?_)) <;> (try (simp (maxSteps := 1000000) (disch := first | exact dq | fail) only [go_sem] at h)) <;> (try (simp (maxSteps := 1000000) (disch := first | exact dq | fail) only [go_sem, h])))))
  refine aw_loop (α := Nat) (fun i => ⟨30, sl [(0, .iv (inl a)), (1, .iv (inl b)), (5, .iv (.int .i64 i))], [], 0⟩)
    (fun i => i ≤ lcp a b) (fun i => a.length - i) 0 (wk_by [] ?_) (by omega) ?_
  · (simp (maxSteps := 1000000) (disch := first | exact dq | fail) only [go_sem])
  rintro i hi
  by_cases h : i < lcp a b
  · have g := lcp_at a b i h
    have c1 : (i : Int) < a.length := by omega
    have c2 : (i : Int) < b.length := by omega
    (repeat' (first
    | ((first | with_reducible (first | refine aw_seq ?_ | refine aw_region (aops_run ?_)) | (with_reducible refine aw_regionD (fun _ => .p) mixed ?_ (dops_run ?_); (· kernel_rfl)) | (with_reducible refine aw_regionD (fun _ => .r) mixed ?_ (dops_run ?_); (· kernel_rfl)) | with_reducible (first | refine aw_condK ?_ | refine aw_skip ?_ | refine aw_ret ?_ | refine aw_exit ?_ | refine aw_label ?_ | refine aw_block ?_ | refine aw_scope ?_ | refine And.intro ?_ ?_)) <;> (try (simp (maxSteps := 1000000) (disch := first | exact dq | fail) only [go_sem, c1, c2, g, decide_true])))
    | (with_reducible (first | refine wantK_split (fun h => ?_) (fun h => ?_) | refine condK_split (fun h => ?_) (fun h => ?_) | refine pickV_split (fun h => ?_) (fun h => ?_)) <;> (try (simp (maxSteps := 1000000) (disch := first | exact dq | fail) only [go_sem] at h)) <;> (try (simp (maxSteps := 1000000) (disch := first | exact dq | fail) only [go_sem, h, c1, c2, g, decide_true])))))
    all_goals (try omega)
    refine ⟨i + 1, by omega, wk_by [] ?_, by omega⟩
    (simp (maxSteps := 1000000) (disch := first | exact dq | fail) only [go_sem])
  · obtain rfl : i = lcp a b := by omega
    have he := lcp_end a b
    generalize lcp a b = k at *
    by_cases h1 : k < a.length
    · by_cases h2 : k < b.length
      · have g := he h1 h2
        have c1 : (k : Int) < a.length := by omega
        have c2 : (k : Int) < b.length := by omega
        (repeat' (first
    | ((first | with_reducible (first | refine aw_seq ?_ | refine aw_region (aops_run ?_)) | (with_reducible refine aw_regionD (fun _ => .p) mixed ?_ (dops_run ?_); (· kernel_rfl)) | (with_reducible refine aw_regionD (fun _ => .r) mixed ?_ (dops_run ?_); (· kernel_rfl)) | with_reducible (first | refine aw_condK ?_ | refine aw_skip ?_ | refine aw_ret ?_ | refine aw_exit ?_ | refine aw_label ?_ | refine aw_block ?_ | refine aw_scope ?_ | refine And.intro ?_ ?_)) <;> (try (simp (maxSteps := 1000000) (disch := first | exact dq | fail) only [go_sem, c1, c2, g, decide_true, decide_false])))
    | (with_reducible (first | refine wantK_split (fun h => ?_) (fun h => ?_) | refine condK_split (fun h => ?_) (fun h => ?_) | refine pickV_split (fun h => ?_) (fun h => ?_)) <;> (try (simp (maxSteps := 1000000) (disch := first | exact dq | fail) only [go_sem] at h)) <;> (try (simp (maxSteps := 1000000) (disch := first | exact dq | fail) only [go_sem, h, c1, c2, g, decide_true, decide_false])))))
        all_goals (try omega)
      · have c1 : (k : Int) < a.length := by omega
        have c2 : ¬ ((k : Int) < b.length) := by omega
        (repeat' (first
    | ((first | with_reducible (first | refine aw_seq ?_ | refine aw_region (aops_run ?_)) | (with_reducible refine aw_regionD (fun _ => .p) mixed ?_ (dops_run ?_); (· kernel_rfl)) | (with_reducible refine aw_regionD (fun _ => .r) mixed ?_ (dops_run ?_); (· kernel_rfl)) | with_reducible (first | refine aw_condK ?_ | refine aw_skip ?_ | refine aw_ret ?_ | refine aw_exit ?_ | refine aw_label ?_ | refine aw_block ?_ | refine aw_scope ?_ | refine And.intro ?_ ?_)) <;> (try (simp (maxSteps := 1000000) (disch := first | exact dq | fail) only [go_sem, c1, c2, decide_true, decide_false])))
    | (with_reducible (first | refine wantK_split (fun h => ?_) (fun h => ?_) | refine condK_split (fun h => ?_) (fun h => ?_) | refine pickV_split (fun h => ?_) (fun h => ?_)) <;> (try (simp (maxSteps := 1000000) (disch := first | exact dq | fail) only [go_sem] at h)) <;> (try (simp (maxSteps := 1000000) (disch := first | exact dq | fail) only [go_sem, h, c1, c2, decide_true, decide_false])))))
        all_goals (try omega)
    · have c1 : ¬ ((k : Int) < a.length) := by omega
      (repeat' (first
    | ((first | with_reducible (first | refine aw_seq ?_ | refine aw_region (aops_run ?_)) | (with_reducible refine aw_regionD (fun _ => .p) mixed ?_ (dops_run ?_); (· kernel_rfl)) | (with_reducible refine aw_regionD (fun _ => .r) mixed ?_ (dops_run ?_); (· kernel_rfl)) | with_reducible (first | refine aw_condK ?_ | refine aw_skip ?_ | refine aw_ret ?_ | refine aw_exit ?_ | refine aw_label ?_ | refine aw_block ?_ | refine aw_scope ?_ | refine And.intro ?_ ?_)) <;> (try (simp (maxSteps := 1000000) (disch := first | exact dq | fail) only [go_sem, c1, decide_false])))
    | (with_reducible (first | refine wantK_split (fun h => ?_) (fun h => ?_) | refine condK_split (fun h => ?_) (fun h => ?_) | refine pickV_split (fun h => ?_) (fun h => ?_)) <;> (try (simp (maxSteps := 1000000) (disch := first | exact dq | fail) only [go_sem] at h)) <;> (try (simp (maxSteps := 1000000) (disch := first | exact dq | fail) only [go_sem, h, c1, decide_false])))))
      all_goals (try omega)
/-- What each suffix begins with as the one ahead in order does. -/
def comF (l : List Int) (r : Nat) : Int := if r = 0 then 0 else (lcp (l.drop ((saL l).getD (r - 1) 0).toNat) (l.drop ((saL l).getD r 0).toNat) : Nat)
def comL (l : List Int) : List Int := (List.range l.length).map (comF l)
theorem comL_len (l : List Int) : (comL l).length = l.length := by simp [comL]
theorem comL_take {l : List Int} {i : Nat} (h : i < l.length) : (comL l).take (i + 1) = (comL l).take i ++ [comF l i] := by
  rw [take_snoc _ (by rw [comL_len]; exact h)]
  unfold comL
  rw [range_at h]
set_option maxHeartbeats 1000000 in
theorem RefCommon_spec (l : List Int) (hl : l.length ≤ 100000) : PCalls Try.prog 20 [inl l, inl (saL l)] (inl (comL l)) := by
  have hsl := saL_len l
  have hcl := comL_len l
  refine PCalls.of_aw Try.func20 rfl (by unfold Callable; kernel_rfl) (by kernel_rfl) (by simp [Try.ntmps20]) ?_; rw [Try.ntmps20, Try.results20]; (simp (maxSteps := 1000000) (disch := first | exact dq | fail) only [go_sem])
  (repeat' (first
    | ((first | with_reducible (first | refine aw_seq ?_ | refine aw_region (aops_run ?_)) | (with_reducible refine aw_regionD (fun _ => .p) mixed ?_ (dops_run ?_); (· kernel_rfl)) | (with_reducible refine aw_regionD (fun _ => .r) mixed ?_ (dops_run ?_); (· kernel_rfl)) | with_reducible (first | refine aw_condK ?_ | refine aw_skip ?_ | refine aw_ret ?_ | refine aw_exit ?_ | refine aw_label ?_ | refine aw_block ?_ | refine aw_scope ?_ | refine And.intro ?_ ?_)) <;> (try (simp (maxSteps := 1000000) (disch := first | exact dq | fail) only [go_sem])))
    | (with_reducible (first | refine wantK_split (fun h => ?_) (fun h => ?_) | refine condK_split (fun h => ?_) (fun h => ?_) | refine pickV_split (fun h => ?_) (fun h => ?_)) <;> (try (simp (maxSteps := 1000000) (disch := first | exact dq | fail) only [go_sem] at h)) <;> (try (simp (maxSteps := 1000000) (disch := first | exact dq | fail) only [go_sem, h])))))
  refine aw_loop (α := Nat) (fun i => ⟨36, sl [(0, .iv (inl l)), (1, .iv (inl (saL l))), (5, .msl 0 0 i i), (6, .iv (.int .i64 i))], [.row true 3 1 (((comL l).take i).map (IV.int .i64))], 0⟩)
    (fun i => i ≤ l.length) (fun i => l.length - i) 0 (wk_by [1] ?_) (by omega) ?_
  · (simp (maxSteps := 1000000) (disch := first | exact dq | fail) only [go_sem])
  rintro i hi
  have htl : ((comL l).take i).length = i := by rw [List.length_take]; omega
  by_cases h : i < l.length
  · have hc : (i : Int) < (saL l).length := by omega
    have hsn := comL_take h
    by_cases h0 : i = 0
    · subst h0
      (repeat' (first
    | ((first | with_reducible (first | refine aw_seq ?_ | refine aw_region (aops_run ?_)) | (with_reducible refine aw_regionD (fun _ => .p) mixed ?_ (dops_run ?_); (· kernel_rfl)) | (with_reducible refine aw_regionD (fun _ => .r) mixed ?_ (dops_run ?_); (· kernel_rfl)) | with_reducible (first | refine aw_condK ?_ | refine aw_skip ?_ | refine aw_ret ?_ | refine aw_exit ?_ | refine aw_label ?_ | refine aw_block ?_ | refine aw_scope ?_ | refine And.intro ?_ ?_)) <;> (try (simp (maxSteps := 1000000) (disch := first | exact dq | fail) only [go_sem])))
    | (with_reducible (first | refine wantK_split (fun h => ?_) (fun h => ?_) | refine condK_split (fun h => ?_) (fun h => ?_) | refine pickV_split (fun h => ?_) (fun h => ?_)) <;> (try (simp (maxSteps := 1000000) (disch := first | exact dq | fail) only [go_sem] at h)) <;> (try (simp (maxSteps := 1000000) (disch := first | exact dq | fail) only [go_sem, h])))))
      all_goals (try omega)
      refine ⟨1, by omega, wk_by [0] ?_, by omega⟩
      rw [hsn]
      (simp (maxSteps := 1000000) (disch := first | exact dq | fail) only [go_sem])
      rfl
    · have h0' : ¬ ((i : Int) = 0) := by omega
      obtain ⟨a, ha⟩ : ∃ a : Nat, (saL l).getD (i - 1) 0 = (a : Int) := ⟨((saL l).getD (i - 1) 0).toNat, by have := saL_rng l (r := i - 1) (by omega); omega⟩
      obtain ⟨b, hb⟩ : ∃ b : Nat, (saL l).getD i 0 = (b : Int) := ⟨((saL l).getD i 0).toNat, by have := saL_rng l h; omega⟩
      have hal := (saL_rng l (r := i - 1) (by omega)).2
      have hbl := (saL_rng l h).2
      have hcf : comF l i = (lcp (l.drop a) (l.drop b) : Nat) := by unfold comF; rw [if_neg h0, ha, hb, Int.toNat_natCast, Int.toNat_natCast]
      rw [ha] at hal
      rw [hb] at hbl
      rw [hcf] at hsn
      have hga : (saL l)[i - 1]? = some (a : Int) := by rw [← ha]; simp [List.getD, List.getElem?_eq_getElem (show i - 1 < (saL l).length by omega)]
      have hgb : (saL l)[i]? = some (b : Int) := by rw [← hb]; simp [List.getD, List.getElem?_eq_getElem (show i < (saL l).length by omega)]
      have hi1 : (i : Int) - 1 = ((i - 1 : Nat) : Int) := by omega
      have hA := Alike_spec (l.drop a) (l.drop b) (by rw [List.length_drop]; omega) (by rw [List.length_drop]; omega)
      rw [inl_drop, inl_drop] at hA
      generalize saL l = s at *
      (repeat' (first
    | ((first | with_reducible (first | refine aw_seq ?_ | refine aw_region (aops_run ?_)) | (with_reducible refine aw_regionD cwF mixed ?_ (dops_runF ?_); (· kernel_rfl)) | with_reducible (first | refine aw_condK ?_ | refine aw_skip ?_ | refine aw_ret ?_ | refine aw_exit ?_ | refine aw_label ?_ | refine aw_block ?_ | refine aw_scope ?_ | refine And.intro ?_ ?_)) <;> (try (simp (maxSteps := 1000000) (disch := first | exact dq | fail) only [go_sem, hc, h0', hi1, hga, hgb, decide_true, decide_false])))
    | (with_reducible (first | refine wantK_split (fun h => ?_) (fun h => ?_) | refine condK_split (fun h => ?_) (fun h => ?_) | refine pickV_split (fun h => ?_) (fun h => ?_)) <;> (try (simp (maxSteps := 1000000) (disch := first | exact dq | fail) only [go_sem] at h)) <;> (try (simp (maxSteps := 1000000) (disch := first | exact dq | fail) only [go_sem, h, hc, h0', hi1, hga, hgb, decide_true, decide_false])))))
      all_goals (try omega)
      ((first | with_reducible apply left_callf | with_reducible apply leftD_callf | with_reducible apply leftF_callf); (· with_reducible rfl); (· (simp (maxSteps := 1000000) (disch := first | exact dq | fail) only [go_sem]) <;> rfl); (· exact hA); try (simp (maxSteps := 1000000) (disch := first | exact dq | fail) only [go_sem]))
      (repeat' (first
    | ((first | with_reducible (first | refine aw_seq ?_ | refine aw_region (aops_run ?_)) | (with_reducible refine aw_regionD cwF mixed ?_ (dops_runF ?_); (· kernel_rfl)) | with_reducible (first | refine aw_condK ?_ | refine aw_skip ?_ | refine aw_ret ?_ | refine aw_exit ?_ | refine aw_label ?_ | refine aw_block ?_ | refine aw_scope ?_ | refine And.intro ?_ ?_)) <;> (try (simp (maxSteps := 1000000) (disch := first | exact dq | fail) only [go_sem, hc, h0', hi1, hga, hgb, htl, decide_true, decide_false])))
    | (with_reducible (first | refine wantK_split (fun h => ?_) (fun h => ?_) | refine condK_split (fun h => ?_) (fun h => ?_) | refine pickV_split (fun h => ?_) (fun h => ?_)) <;> (try (simp (maxSteps := 1000000) (disch := first | exact dq | fail) only [go_sem] at h)) <;> (try (simp (maxSteps := 1000000) (disch := first | exact dq | fail) only [go_sem, h, hc, h0', hi1, hga, hgb, htl, decide_true, decide_false])))))
      all_goals (try omega)
      refine ⟨i + 1, by omega, wk_by [0] ?_, by omega⟩
      rw [hsn]
      (simp (maxSteps := 1000000) (disch := first | exact dq | fail) only [go_sem])
      simp
  · obtain rfl : i = l.length := by omega
    have e : (comL l).take l.length = comL l := List.take_of_length_le (by omega)
    rw [e]
    (repeat' (first
    | ((first | with_reducible (first | refine aw_seq ?_ | refine aw_region (aops_run ?_)) | (with_reducible refine aw_regionD (fun _ => .p) mixed ?_ (dops_run ?_); (· kernel_rfl)) | (with_reducible refine aw_regionD (fun _ => .r) mixed ?_ (dops_run ?_); (· kernel_rfl)) | with_reducible (first | refine aw_condK ?_ | refine aw_skip ?_ | refine aw_ret ?_ | refine aw_exit ?_ | refine aw_label ?_ | refine aw_block ?_ | refine aw_scope ?_ | refine And.intro ?_ ?_)) <;> (try (simp (maxSteps := 1000000) (disch := first | exact dq | fail) only [go_sem, hcl])))
    | (with_reducible (first | refine wantK_split (fun h => ?_) (fun h => ?_) | refine condK_split (fun h => ?_) (fun h => ?_) | refine pickV_split (fun h => ?_) (fun h => ?_)) <;> (try (simp (maxSteps := 1000000) (disch := first | exact dq | fail) only [go_sem] at h)) <;> (try (simp (maxSteps := 1000000) (disch := first | exact dq | fail) only [go_sem, h, hcl])))))
    all_goals (try omega)
    all_goals (try (rw [List.take_of_length_le (by rw [List.length_map, hcl]; exact Nat.le_refl _)]))
end Go.Proofs.Ytejhomoafhnipaa.AM
