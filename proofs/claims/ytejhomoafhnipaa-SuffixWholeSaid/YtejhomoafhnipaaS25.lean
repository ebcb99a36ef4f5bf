
/- Chapter 7: the law SuffixWhole. No condition. -/
import Derived.Test.YtejhomoafhnipaaS21
set_option linter.unusedVariables false
set_option linter.unusedSimpArgs false
set_option maxRecDepth 20000
namespace Go.Proofs.Ytejhomoafhnipaa.AM
open Go Go.RowKit

theorem inl_cut (l : List Int) (a k : Nat) : inl ((l.drop a).take k) = .sl 1 (List.take k (List.drop a (l.map (IV.int .i64)))) := by
  unfold inl
  rw [List.map_take, List.map_drop]
set_option maxHeartbeats 1000000 in
theorem SuffixWhole_spec (l : List Int) (n x y : Int) : PCalls Try.prog 6 [inl l, .int .i64 n, .agg [.int .i64 x, .int .i64 y]] (.bool true) := by
  have hml := alkL_len 40 n l
  have hal := alike7_spec l n
  generalize alkL 40 n l = m at *
  by_cases h0 : m.length = 0
  · have c0 : (m.length : Int) = 0 := by omega
    refine PCalls.of_aw Try.func6 rfl (by unfold Callable; kernel_rfl) (by kernel_rfl) (by simp [Try.ntmps6]) ?_; rw [Try.ntmps6, Try.results6]; (simp (maxSteps := 1000000) (disch := first | exact dq | fail) only [go_sem])
    (repeat' (first
    | ((first | with_reducible (first | refine aw_seq ?_ | refine aw_region (aops_run ?_)) | (with_reducible refine aw_regionD (fun _ => .p) mixed ?_ (dops_run ?_); (· kernel_rfl)) | (with_reducible refine aw_regionD (fun _ => .r) mixed ?_ (dops_run ?_); (· kernel_rfl)) | with_reducible (first | refine aw_condK ?_ | refine aw_skip ?_ | refine aw_ret ?_ | refine aw_exit ?_ | refine aw_label ?_ | refine aw_block ?_ | refine aw_scope ?_ | refine And.intro ?_ ?_)) <;> (try (simp (maxSteps := 1000000) (disch := first | exact dq | fail) only [go_sem])))
    | (with_reducible (first | refine wantK_split (fun h => ?_) (fun h => ?_) | refine condK_split (fun h => ?_) (fun h => ?_) | refine pickV_split (fun h => ?_) (fun h => ?_)) <;> (try (simp (maxSteps := 1000000) (disch := first | exact dq | fail) only [go_sem] at h)) <;> (try (simp (maxSteps := 1000000) (disch := first | exact dq | fail) only [go_sem, h])))))
    ((first | with_reducible apply left_callf | with_reducible apply leftD_callf | with_reducible apply leftF_callf); (· with_reducible rfl); (· (simp (maxSteps := 1000000) (disch := first | exact dq | fail) only [go_sem]) <;> rfl); (· exact awake7_spec); try (simp (maxSteps := 1000000) (disch := first | exact dq | fail) only [go_sem]))
    (repeat' (first
    | ((first | with_reducible (first | refine aw_seq ?_ | refine aw_region (aops_run ?_)) | (with_reducible refine aw_regionD (fun _ => .p) mixed ?_ (dops_run ?_); (· kernel_rfl)) | (with_reducible refine aw_regionD (fun _ => .r) mixed ?_ (dops_run ?_); (· kernel_rfl)) | with_reducible (first | refine aw_condK ?_ | refine aw_skip ?_ | refine aw_ret ?_ | refine aw_exit ?_ | refine aw_label ?_ | refine aw_block ?_ | refine aw_scope ?_ | refine And.intro ?_ ?_)) <;> (try (simp (maxSteps := 1000000) (disch := first | exact dq | fail) only [go_sem])))
    | (with_reducible (first | refine wantK_split (fun h => ?_) (fun h => ?_) | refine condK_split (fun h => ?_) (fun h => ?_) | refine pickV_split (fun h => ?_) (fun h => ?_)) <;> (try (simp (maxSteps := 1000000) (disch := first | exact dq | fail) only [go_sem] at h)) <;> (try (simp (maxSteps := 1000000) (disch := first | exact dq | fail) only [go_sem, h])))))
    ((first | with_reducible apply left_callf | with_reducible apply leftD_callf | with_reducible apply leftF_callf); (· with_reducible rfl); (· (simp (maxSteps := 1000000) (disch := first | exact dq | fail) only [go_sem]) <;> rfl); (· exact hal); try (simp (maxSteps := 1000000) (disch := first | exact dq | fail) only [go_sem]))
    (repeat' (first
    | ((first | with_reducible (first | refine aw_seq ?_ | refine aw_region (aops_run ?_)) | (with_reducible refine aw_regionD (fun _ => .p) mixed ?_ (dops_run ?_); (· kernel_rfl)) | (with_reducible refine aw_regionD (fun _ => .r) mixed ?_ (dops_run ?_); (· kernel_rfl)) | with_reducible (first | refine aw_condK ?_ | refine aw_skip ?_ | refine aw_ret ?_ | refine aw_exit ?_ | refine aw_label ?_ | refine aw_block ?_ | refine aw_scope ?_ | refine And.intro ?_ ?_)) <;> (try (simp (maxSteps := 1000000) (disch := first | exact dq | fail) only [go_sem, c0, eq_self, decide_true])))
    | (with_reducible (first | refine wantK_split (fun h => ?_) (fun h => ?_) | refine condK_split (fun h => ?_) (fun h => ?_) | refine pickV_split (fun h => ?_) (fun h => ?_)) <;> (try (simp (maxSteps := 1000000) (disch := first | exact dq | fail) only [go_sem] at h)) <;> (try (simp (maxSteps := 1000000) (disch := first | exact dq | fail) only [go_sem, h, c0, eq_self, decide_true])))))
  · have c0 : ¬ ((m.length : Int) = 0) := by omega
    have hw := cutS_wrap (s := (m.length : Int)) (by omega) (by omega) x
    have hcr := cutS_range (s := (m.length : Int)) (by omega) x
    obtain ⟨a, ha⟩ : ∃ a : Nat, cutS m.length x = a := ⟨(cutS m.length x).toNat, by omega⟩
    rw [ha] at hw hcr
    obtain ⟨t, ht⟩ : ∃ t, y.tmod ((m.length : Int) - a + 1) = t := ⟨_, rfl⟩
    have ht1 := Int.lt_tmod_of_pos y (show 0 < (m.length : Int) - a + 1 by omega)
    have ht2 := Int.tmod_lt_of_pos y (show 0 < (m.length : Int) - a + 1 by omega)
    rw [ht] at ht1 ht2
    have hk1 := Int.tmod_lt_of_pos (t + m.length - a + 1) (show 0 < (m.length : Int) - a + 1 by omega)
    have hk2 := Int.tmod_nonneg ((m.length : Int) - a + 1) (show 0 ≤ t + m.length - a + 1 by omega)
    obtain ⟨k, hk⟩ : ∃ k : Nat, (t + m.length - a + 1).tmod ((m.length : Int) - a + 1) = k := ⟨((t + m.length - a + 1).tmod ((m.length : Int) - a + 1)).toNat, by omega⟩
    rw [hk] at hk1 hk2
    have hak : (a : Int) + k ≤ m.length := by omega
    have hsub : ((a : Int) + k).toNat - a = k := by omega
    have hsl := saL_len m
    have hA := Array_any m (by omega)
    obtain ⟨p, hp⟩ : ∃ p, p = (m.drop a).take k := ⟨_, rfl⟩
    have hpl : p.length = k := by rw [hp, List.length_take, List.length_drop]; omega
    have hpi := inl_cut m a k
    rw [← hp] at hpi
    have hF := Find_sa m p (by omega) (by omega)
    have hle := cntF_le (fun j => wlP m p j || eqP m p j) m.length
    rw [cntF_both] at hle
    have hfm := fun i => @found_mem m p i
    have heq : eqP m p a = true := by
      unfold eqP
      rw [decide_eq_true_iff, hp]
      have hd : ∀ (b : List Int) (j : Nat), j ≤ b.length → lcp b (b.take j) = j := by
        intro b
        induction b with
        | nil => intro j hj; simp [lcp] at hj ⊢; exact hj.symm
        | cons z b ih =>
          intro j hj
          cases j with
          | zero => rfl
          | succ j => rw [List.take_succ_cons, lcp, if_pos rfl, ih j (by simpa using hj)]
      rw [hd _ _ (by rw [List.length_drop]; omega), List.length_take, List.length_drop]; omega
    have hpos : 0 < cntF (eqP m p) m.length := by
      have := (hfm a (by omega)).2 heq
      rcases Nat.eq_zero_or_pos (cntF (eqP m p) m.length) with g | g
      · rw [g] at this; simp at this
      · exact g
    have hlast : ∀ i, cntF (eqP m p) (i + 1) = cntF (eqP m p) i + (if eqP m p i = true then 1 else 0) := fun i => rfl
    have hcl := cntF_le (eqP m p)
    obtain ⟨b, hb⟩ : ∃ b, cntF (eqP m p) m.length = b := ⟨_, rfl⟩
    rw [hb] at hF hle hpos hfm
    generalize cntF (wlP m p) m.length = f at *
    refine PCalls.of_aw Try.func6 rfl (by unfold Callable; kernel_rfl) (by kernel_rfl) (by simp [Try.ntmps6]) ?_; rw [Try.ntmps6, Try.results6]; (simp (maxSteps := 1000000) (disch := first | exact dq | fail) only [go_sem])
    (repeat' (first
    | ((first | with_reducible (first | refine aw_seq ?_ | refine aw_region (aops_run ?_)) | (with_reducible refine aw_regionD (fun _ => .p) mixed ?_ (dops_run ?_); (· kernel_rfl)) | (with_reducible refine aw_regionD (fun _ => .r) mixed ?_ (dops_run ?_); (· kernel_rfl)) | with_reducible (first | refine aw_condK ?_ | refine aw_skip ?_ | refine aw_ret ?_ | refine aw_exit ?_ | refine aw_label ?_ | refine aw_block ?_ | refine aw_scope ?_ | refine And.intro ?_ ?_)) <;> (try (simp (maxSteps := 1000000) (disch := first | exact dq | fail) only [go_sem])))
    | (with_reducible (first | refine wantK_split (fun h => ?_) (fun h => ?_) | refine condK_split (fun h => ?_) (fun h => ?_) | refine pickV_split (fun h => ?_) (fun h => ?_)) <;> (try (simp (maxSteps := 1000000) (disch := first | exact dq | fail) only [go_sem] at h)) <;> (try (simp (maxSteps := 1000000) (disch := first | exact dq | fail) only [go_sem, h])))))
    ((first | with_reducible apply left_callf | with_reducible apply leftD_callf | with_reducible apply leftF_callf); (· with_reducible rfl); (· (simp (maxSteps := 1000000) (disch := first | exact dq | fail) only [go_sem]) <;> rfl); (· exact awake7_spec); try (simp (maxSteps := 1000000) (disch := first | exact dq | fail) only [go_sem]))
    (repeat' (first
    | ((first | with_reducible (first | refine aw_seq ?_ | refine aw_region (aops_run ?_)) | (with_reducible refine aw_regionD (fun _ => .p) mixed ?_ (dops_run ?_); (· kernel_rfl)) | (with_reducible refine aw_regionD (fun _ => .r) mixed ?_ (dops_run ?_); (· kernel_rfl)) | with_reducible (first | refine aw_condK ?_ | refine aw_skip ?_ | refine aw_ret ?_ | refine aw_exit ?_ | refine aw_label ?_ | refine aw_block ?_ | refine aw_scope ?_ | refine And.intro ?_ ?_)) <;> (try (simp (maxSteps := 1000000) (disch := first | exact dq | fail) only [go_sem])))
    | (with_reducible (first | refine wantK_split (fun h => ?_) (fun h => ?_) | refine condK_split (fun h => ?_) (fun h => ?_) | refine pickV_split (fun h => ?_) (fun h => ?_)) <;> (try (simp (maxSteps := 1000000) (disch := first | exact dq | fail) only [go_sem] at h)) <;> (try (simp (maxSteps := 1000000) (disch := first | exact dq | fail) only [go_sem, h])))))
    ((first | with_reducible apply left_callf | with_reducible apply leftD_callf | with_reducible apply leftF_callf); (· with_reducible rfl); (· (simp (maxSteps := 1000000) (disch := first | exact dq | fail) only [go_sem]) <;> rfl); (· exact hal); try (simp (maxSteps := 1000000) (disch := first | exact dq | fail) only [go_sem]))
    (repeat' (first
    | ((first | with_reducible (first | refine aw_seq ?_ | refine aw_region (aops_run ?_)) | (with_reducible refine aw_regionD (fun _ => .p) mixed ?_ (dops_run ?_); (· kernel_rfl)) | (with_reducible refine aw_regionD (fun _ => .r) mixed ?_ (dops_run ?_); (· kernel_rfl)) | with_reducible (first | refine aw_condK ?_ | refine aw_skip ?_ | refine aw_ret ?_ | refine aw_exit ?_ | refine aw_label ?_ | refine aw_block ?_ | refine aw_scope ?_ | refine And.intro ?_ ?_)) <;> (try (simp (maxSteps := 1000000) (disch := first | exact dq | fail) only [go_sem, c0, decide_false, hw, ht, hk, hsub])))
    | (with_reducible (first | refine wantK_split (fun h => ?_) (fun h => ?_) | refine condK_split (fun h => ?_) (fun h => ?_) | refine pickV_split (fun h => ?_) (fun h => ?_)) <;> (try (simp (maxSteps := 1000000) (disch := first | exact dq | fail) only [go_sem] at h)) <;> (try (simp (maxSteps := 1000000) (disch := first | exact dq | fail) only [go_sem, h, c0, decide_false, hw, ht, hk, hsub])))))
    all_goals (try omega)
    rw [hpi] at hF
    have hH := fun i => Has_spec (((saL m).drop f).take b) i (by rw [List.length_take, List.length_drop]; omega)
    obtain ⟨q, hq⟩ : ∃ q, q = ((saL m).drop f).take b := ⟨_, rfl⟩
    have hqm : List.take b (List.drop f ((saL m).map (IV.int .i64))) = q.map (IV.int .i64) := by rw [hq, List.map_take, List.map_drop]
    have hpm : List.take k (List.drop a (m.map (IV.int .i64))) = p.map (IV.int .i64) := by rw [hp, List.map_take, List.map_drop]
    rw [← hq] at hH hfm
    generalize saL m = s at *
    ((first | with_reducible apply left_callf | with_reducible apply leftD_callf | with_reducible apply leftF_callf); (· with_reducible rfl); (· (simp (maxSteps := 1000000) (disch := first | exact dq | fail) only [go_sem]) <;> rfl); (· exact hA); try (simp (maxSteps := 1000000) (disch := first | exact dq | fail) only [go_sem]))
    (repeat' (first
    | ((first | with_reducible (first | refine aw_seq ?_ | refine aw_region (aops_run ?_)) | (with_reducible refine aw_regionD (fun _ => .p) mixed ?_ (dops_run ?_); (· kernel_rfl)) | (with_reducible refine aw_regionD (fun _ => .r) mixed ?_ (dops_run ?_); (· kernel_rfl)) | with_reducible (first | refine aw_condK ?_ | refine aw_skip ?_ | refine aw_ret ?_ | refine aw_exit ?_ | refine aw_label ?_ | refine aw_block ?_ | refine aw_scope ?_ | refine And.intro ?_ ?_)) <;> (try (simp (maxSteps := 1000000) (disch := first | exact dq | fail) only [go_sem])))
    | (with_reducible (first | refine wantK_split (fun h => ?_) (fun h => ?_) | refine condK_split (fun h => ?_) (fun h => ?_) | refine pickV_split (fun h => ?_) (fun h => ?_)) <;> (try (simp (maxSteps := 1000000) (disch := first | exact dq | fail) only [go_sem] at h)) <;> (try (simp (maxSteps := 1000000) (disch := first | exact dq | fail) only [go_sem, h])))))
    ((first | with_reducible apply left_callf | with_reducible apply leftD_callf | with_reducible apply leftF_callf); (· with_reducible rfl); (· (simp (maxSteps := 1000000) (disch := first | exact dq | fail) only [go_sem]) <;> rfl); (· exact hF); try (simp (maxSteps := 1000000) (disch := first | exact dq | fail) only [go_sem]))
    have hs1 : ((f : Int) + b).toNat - f = b := by omega
    have hs2 : (f : Int) + b ≤ s.length := by omega
    have c1 : ¬ ((f : Int) < 0) := by omega
    have c2 : ¬ ((f : Int) + b > s.length) := by omega
    have c3 : ¬ ((f : Int) ≥ (f : Int) + b) := by omega
    (repeat' (first
    | ((first | with_reducible (first | refine aw_seq ?_ | refine aw_region (aops_run ?_)) | (with_reducible refine aw_regionD (fun _ => .p) mixed ?_ (dops_run ?_); (· kernel_rfl)) | (with_reducible refine aw_regionD (fun _ => .r) mixed ?_ (dops_run ?_); (· kernel_rfl)) | with_reducible (first | refine aw_condK ?_ | refine aw_skip ?_ | refine aw_ret ?_ | refine aw_exit ?_ | refine aw_label ?_ | refine aw_block ?_ | refine aw_scope ?_ | refine And.intro ?_ ?_)) <;> (try (simp (maxSteps := 1000000) (disch := first | exact dq | fail) only [go_sem, hs1, hs2, c1, c2, c3, decide_false])))
    | (with_reducible (first | refine wantK_split (fun h => ?_) (fun h => ?_) | refine condK_split (fun h => ?_) (fun h => ?_) | refine pickV_split (fun h => ?_) (fun h => ?_)) <;> (try (simp (maxSteps := 1000000) (disch := first | exact dq | fail) only [go_sem] at h)) <;> (try (simp (maxSteps := 1000000) (disch := first | exact dq | fail) only [go_sem, h, hs1, hs2, c1, c2, c3, decide_false])))))
    all_goals (try omega)
    refine aw_loop (α := Nat) (fun i => ⟨122, sl [(7, .iv (.bool true)), (8, .iv (inl m)), (11, .iv (inl p)), (13, .iv (.int .i64 f)), (14, .iv (.int .i64 ((f : Int) + b))), (15, .iv (inl q)), (16, .iv (.int .i64 (cntF (eqP m p) i))), (17, .iv (.int .i64 i))], [.var 40 [.iv (.int .i64 x), .iv (.int .i64 y)]], 0⟩)
      (fun i => i ≤ m.length) (fun i => m.length - i) 0 (wk_by [0] ?_) (by omega) ?_
    · (simp (maxSteps := 1000000) (disch := first | exact dq | fail) only [go_sem, hpm, hqm])
      rfl
    clear hF hpm hqm hH
    have hH := fun i => Has_spec q i (by rw [hq, List.length_take, List.length_drop]; omega)
    rintro i hi
    have hci := hcl i
    by_cases h : i < m.length
    · have hA2 := Alike_spec (m.drop i) p (by rw [List.length_drop]; omega) (by omega)
      have hf := hfm i h
      have hL := hlast i
      have hB : eqP m p i = decide ((lcp (m.drop i) p : Int) = p.length) := by
        unfold eqP
        rw [decide_eq_decide]; omega
      have hd : decide ((i : Int) ∈ q) = eqP m p i := by
        rw [Bool.eq_iff_iff, decide_eq_true_iff]; exact hf
      have hHi := hH i
      rw [hd] at hHi
      rw [hB] at hHi hL
      rw [inl_drop] at hA2
      have hc4 : (i : Int) < m.length := by omega
      generalize cntF (eqP m p) i = ci at *
      generalize lcp (m.drop i) p = L at *
      (repeat' (first
    | ((first | with_reducible (first | refine aw_seq ?_ | refine aw_region (aops_run ?_)) | (with_reducible refine aw_regionD (fun _ => .p) mixed ?_ (dops_run ?_); (· kernel_rfl)) | (with_reducible refine aw_regionD (fun _ => .r) mixed ?_ (dops_run ?_); (· kernel_rfl)) | with_reducible (first | refine aw_condK ?_ | refine aw_skip ?_ | refine aw_ret ?_ | refine aw_exit ?_ | refine aw_label ?_ | refine aw_block ?_ | refine aw_scope ?_ | refine And.intro ?_ ?_)) <;> (try (simp (maxSteps := 1000000) (disch := first | exact dq | fail) only [go_sem, hc4, decide_true])))
    | (with_reducible (first | refine wantK_split (fun h => ?_) (fun h => ?_) | refine condK_split (fun h => ?_) (fun h => ?_) | refine pickV_split (fun h => ?_) (fun h => ?_)) <;> (try (simp (maxSteps := 1000000) (disch := first | exact dq | fail) only [go_sem] at h)) <;> (try (simp (maxSteps := 1000000) (disch := first | exact dq | fail) only [go_sem, h, hc4, decide_true])))))
      all_goals (try omega)
      ((first | with_reducible apply left_callf | with_reducible apply leftD_callf | with_reducible apply leftF_callf); (· with_reducible rfl); (· (simp (maxSteps := 1000000) (disch := first | exact dq | fail) only [go_sem]) <;> rfl); (· exact hA2); try (simp (maxSteps := 1000000) (disch := first | exact dq | fail) only [go_sem]))
      by_cases e : (L : Int) = p.length
      · rw [decide_eq_true e] at hHi hL
        rw [if_pos rfl] at hL
        (repeat' (first
    | ((first | with_reducible (first | refine aw_seq ?_ | refine aw_region (aops_run ?_)) | (with_reducible refine aw_regionD (fun _ => .p) mixed ?_ (dops_run ?_); (· kernel_rfl)) | (with_reducible refine aw_regionD (fun _ => .r) mixed ?_ (dops_run ?_); (· kernel_rfl)) | with_reducible (first | refine aw_condK ?_ | refine aw_skip ?_ | refine aw_ret ?_ | refine aw_exit ?_ | refine aw_label ?_ | refine aw_block ?_ | refine aw_scope ?_ | refine And.intro ?_ ?_)) <;> (try (simp (maxSteps := 1000000) (disch := first | exact dq | fail) only [go_sem, e, eq_self, decide_true])))
    | (with_reducible (first | refine wantK_split (fun h => ?_) (fun h => ?_) | refine condK_split (fun h => ?_) (fun h => ?_) | refine pickV_split (fun h => ?_) (fun h => ?_)) <;> (try (simp (maxSteps := 1000000) (disch := first | exact dq | fail) only [go_sem] at h)) <;> (try (simp (maxSteps := 1000000) (disch := first | exact dq | fail) only [go_sem, h, e, eq_self, decide_true])))))
        ((first | with_reducible apply left_callf | with_reducible apply leftD_callf | with_reducible apply leftF_callf); (· with_reducible rfl); (· (simp (maxSteps := 1000000) (disch := first | exact dq | fail) only [go_sem]) <;> rfl); (· exact hHi); try (simp (maxSteps := 1000000) (disch := first | exact dq | fail) only [go_sem]))
        (repeat' (first
    | ((first | with_reducible (first | refine aw_seq ?_ | refine aw_region (aops_run ?_)) | (with_reducible refine aw_regionD (fun _ => .p) mixed ?_ (dops_run ?_); (· kernel_rfl)) | (with_reducible refine aw_regionD (fun _ => .r) mixed ?_ (dops_run ?_); (· kernel_rfl)) | with_reducible (first | refine aw_condK ?_ | refine aw_skip ?_ | refine aw_ret ?_ | refine aw_exit ?_ | refine aw_label ?_ | refine aw_block ?_ | refine aw_scope ?_ | refine And.intro ?_ ?_)) <;> (try (simp (maxSteps := 1000000) (disch := first | exact dq | fail) only [go_sem])))
    | (with_reducible (first | refine wantK_split (fun h => ?_) (fun h => ?_) | refine condK_split (fun h => ?_) (fun h => ?_) | refine pickV_split (fun h => ?_) (fun h => ?_)) <;> (try (simp (maxSteps := 1000000) (disch := first | exact dq | fail) only [go_sem] at h)) <;> (try (simp (maxSteps := 1000000) (disch := first | exact dq | fail) only [go_sem, h])))))
        all_goals (try omega)
        refine ⟨i + 1, by omega, wk_by [0] ?_, by omega⟩
        (simp (maxSteps := 1000000) (disch := first | exact dq | fail) only [go_sem, hL])
      · rw [decide_eq_false e] at hHi hL
        rw [if_neg (by decide)] at hL
        (repeat' (first
    | ((first | with_reducible (first | refine aw_seq ?_ | refine aw_region (aops_run ?_)) | (with_reducible refine aw_regionD (fun _ => .p) mixed ?_ (dops_run ?_); (· kernel_rfl)) | (with_reducible refine aw_regionD (fun _ => .r) mixed ?_ (dops_run ?_); (· kernel_rfl)) | with_reducible (first | refine aw_condK ?_ | refine aw_skip ?_ | refine aw_ret ?_ | refine aw_exit ?_ | refine aw_label ?_ | refine aw_block ?_ | refine aw_scope ?_ | refine And.intro ?_ ?_)) <;> (try (simp (maxSteps := 1000000) (disch := first | exact dq | fail) only [go_sem, e, decide_false])))
    | (with_reducible (first | refine wantK_split (fun h => ?_) (fun h => ?_) | refine condK_split (fun h => ?_) (fun h => ?_) | refine pickV_split (fun h => ?_) (fun h => ?_)) <;> (try (simp (maxSteps := 1000000) (disch := first | exact dq | fail) only [go_sem] at h)) <;> (try (simp (maxSteps := 1000000) (disch := first | exact dq | fail) only [go_sem, h, e, decide_false])))))
        ((first | with_reducible apply left_callf | with_reducible apply leftD_callf | with_reducible apply leftF_callf); (· with_reducible rfl); (· (simp (maxSteps := 1000000) (disch := first | exact dq | fail) only [go_sem]) <;> rfl); (· exact hHi); try (simp (maxSteps := 1000000) (disch := first | exact dq | fail) only [go_sem]))
        (repeat' (first
    | ((first | with_reducible (first | refine aw_seq ?_ | refine aw_region (aops_run ?_)) | (with_reducible refine aw_regionD (fun _ => .p) mixed ?_ (dops_run ?_); (· kernel_rfl)) | (with_reducible refine aw_regionD (fun _ => .r) mixed ?_ (dops_run ?_); (· kernel_rfl)) | with_reducible (first | refine aw_condK ?_ | refine aw_skip ?_ | refine aw_ret ?_ | refine aw_exit ?_ | refine aw_label ?_ | refine aw_block ?_ | refine aw_scope ?_ | refine And.intro ?_ ?_)) <;> (try (simp (maxSteps := 1000000) (disch := first | exact dq | fail) only [go_sem])))
    | (with_reducible (first | refine wantK_split (fun h => ?_) (fun h => ?_) | refine condK_split (fun h => ?_) (fun h => ?_) | refine pickV_split (fun h => ?_) (fun h => ?_)) <;> (try (simp (maxSteps := 1000000) (disch := first | exact dq | fail) only [go_sem] at h)) <;> (try (simp (maxSteps := 1000000) (disch := first | exact dq | fail) only [go_sem, h])))))
        all_goals (try omega)
        refine ⟨i + 1, by omega, wk_by [0] ?_, by omega⟩
        (simp (maxSteps := 1000000) (disch := first | exact dq | fail) only [go_sem, hL])
    · obtain rfl : i = m.length := by omega
      have hc4 : ¬ ((m.length : Int) < m.length) := by omega
      have hc5 : (b : Int) = (f : Int) + b - f := by omega
      rw [hb]
      (repeat' (first
    | ((first | with_reducible (first | refine aw_seq ?_ | refine aw_region (aops_run ?_)) | (with_reducible refine aw_regionD (fun _ => .p) mixed ?_ (dops_run ?_); (· kernel_rfl)) | (with_reducible refine aw_regionD (fun _ => .r) mixed ?_ (dops_run ?_); (· kernel_rfl)) | with_reducible (first | refine aw_condK ?_ | refine aw_skip ?_ | refine aw_ret ?_ | refine aw_exit ?_ | refine aw_label ?_ | refine aw_block ?_ | refine aw_scope ?_ | refine And.intro ?_ ?_)) <;> (try (simp (maxSteps := 1000000) (disch := first | exact dq | fail) only [go_sem, hc4, decide_false])))
    | (with_reducible (first | refine wantK_split (fun h => ?_) (fun h => ?_) | refine condK_split (fun h => ?_) (fun h => ?_) | refine pickV_split (fun h => ?_) (fun h => ?_)) <;> (try (simp (maxSteps := 1000000) (disch := first | exact dq | fail) only [go_sem] at h)) <;> (try (simp (maxSteps := 1000000) (disch := first | exact dq | fail) only [go_sem, h, hc4, decide_false])))))
      all_goals (try omega)
      rw [decide_eq_true hc5]
theorem SuffixWhole_two (l : List Int) (n : Int) (q : List Int) (hq : q.length = 2) : PCalls Try.prog 6 [inl l, .int .i64 n, .agg (q.map (IV.int .i64))] (.bool true) := by
  match q, hq with
  | [x, y], _ => exact SuffixWhole_spec l n x y
end Go.Proofs.Ytejhomoafhnipaa.AM
