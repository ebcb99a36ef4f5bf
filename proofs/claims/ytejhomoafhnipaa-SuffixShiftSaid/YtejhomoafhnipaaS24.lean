
/- Chapter 7: the laws SuffixUnlike and SuffixShift. No condition. -/
import Derived.Test.YtejhomoafhnipaaS21
set_option linter.unusedVariables false
set_option linter.unusedSimpArgs false
set_option maxRecDepth 20000
namespace Go.Proofs.Ytejhomoafhnipaa.AM
open Go Go.RowKit

/-- Truth values by place. -/
def rowG (n : Nat) (f : Nat → Bool) : List IV := (List.range n).map fun m => .bool (f m)
theorem rowG_len (n : Nat) (f : Nat → Bool) : (rowG n f).length = n := by simp [rowG]
theorem rowG_get {n i : Nat} (f : Nat → Bool) (h : i < n) : (rowG n f)[i]? = some (.bool (f i)) := by simp [rowG, h]
theorem rowG_congr {n : Nat} {f g : Nat → Bool} (h : ∀ m, m < n → f m = g m) : rowG n f = rowG n g := by
  unfold rowG
  exact List.map_congr_left (fun m hm => by rw [h m (List.mem_range.1 hm)])
theorem rowG_set {n i : Nat} (f : Nat → Bool) (v : Bool) : (rowG n f).set i (.bool v) = rowG n (fun m => if m = i then v else f m) := by
  apply List.ext_getElem?
  intro m
  rw [List.getElem?_set]
  by_cases hm : m < n
  · rw [rowG_get _ hm, rowG_get _ hm, rowG_len]
    by_cases e : i = m
    · subst e; simp [hm]
    · rw [if_neg e, if_neg (fun h => e h.symm)]
  · rw [List.getElem?_eq_none (by rw [rowG_len]; omega), List.getElem?_eq_none (by rw [rowG_len]; omega), rowG_len]
    by_cases e : i = m
    · rw [if_pos e, if_neg (by omega)]
    · rw [if_neg e]
theorem rowG_rep (n : Nat) : List.replicate n (IV.bool false) = rowG n (fun _ => false) := by
  unfold rowG
  rw [List.map_const', List.length_range]
set_option maxHeartbeats 1000000 in
theorem SuffixUnlike_spec (l : List Int) (n : Int) : PCalls Try.prog 5 [inl l, .int .i64 n] (.bool true) := by
  have em : bitI .and .i64 n 3 = n % 4 := and_maskS n 4 2 (by decide) rfl
  obtain ⟨k, hk⟩ : ∃ k, k = 1 + n % 4 := ⟨_, rfl⟩
  have hk0 : 0 < k ∧ k ≤ 4 := by omega
  have hw := cutS_wrap hk0.1 (by omega)
  have hml := alkL_len 200 n l
  have hma := fun i => @alkL_at 200 n l i
  rw [← hk] at hma
  generalize alkL 200 n l = m at *
  refine PCalls.of_aw Try.func5 rfl (by unfold Callable; kernel_rfl) (by kernel_rfl) (by simp [Try.ntmps5]) ?_; rw [Try.ntmps5, Try.results5]; (simp (maxSteps := 1000000) (disch := first | exact dq | fail) only [go_sem])
  (repeat' (first
    | ((first | with_reducible (first | refine aw_seq ?_ | refine aw_region (aops_run ?_)) | (with_reducible refine aw_regionD (fun _ => .p) mixed ?_ (dops_run ?_); (· kernel_rfl)) | (with_reducible refine aw_regionD (fun _ => .r) mixed ?_ (dops_run ?_); (· kernel_rfl)) | with_reducible (first | refine aw_condK ?_ | refine aw_skip ?_ | refine aw_ret ?_ | refine aw_exit ?_ | refine aw_label ?_ | refine aw_block ?_ | refine aw_scope ?_ | refine And.intro ?_ ?_)) <;> (try (simp (maxSteps := 1000000) (disch := first | exact dq | fail) only [go_sem])))
    | (with_reducible (first | refine wantK_split (fun h => ?_) (fun h => ?_) | refine condK_split (fun h => ?_) (fun h => ?_) | refine pickV_split (fun h => ?_) (fun h => ?_)) <;> (try (simp (maxSteps := 1000000) (disch := first | exact dq | fail) only [go_sem] at h)) <;> (try (simp (maxSteps := 1000000) (disch := first | exact dq | fail) only [go_sem, h])))))
  ((first | with_reducible apply left_callf | with_reducible apply leftD_callf | with_reducible apply leftF_callf); (· with_reducible rfl); (· (simp (maxSteps := 1000000) (disch := first | exact dq | fail) only [go_sem]) <;> rfl); (· exact awake7_spec); try (simp (maxSteps := 1000000) (disch := first | exact dq | fail) only [go_sem]))
  with_reducible refine aw_seq ?_
  with_reducible refine aw_region (aops_run ?_)
  (simp (maxSteps := 1000000) (disch := first | exact dq | fail) only [go_sem, em])
  simp only [← hk]
  ((with_reducible refine aw_seq ?_); (with_reducible refine aw_region (aops_run ?_)); try (simp (maxSteps := 1000000) (disch := first | exact dq | fail) only [go_sem]))
  refine aw_cut ⟨104, sl [(5, .iv (.bool true)), (7, .iv (inl m))], [], 0⟩ ?_ ?_
  · (repeat' (first
    | ((first | with_reducible (first | refine aw_seq ?_ | refine aw_region (aops_run ?_)) | (with_reducible refine aw_regionD (fun _ => .p) mixed ?_ (dops_run ?_); (· kernel_rfl)) | (with_reducible refine aw_regionD (fun _ => .r) mixed ?_ (dops_run ?_); (· kernel_rfl)) | with_reducible (first | refine aw_condK ?_ | refine aw_skip ?_ | refine aw_ret ?_ | refine aw_exit ?_ | refine aw_label ?_ | refine aw_block ?_ | refine aw_scope ?_ | refine And.intro ?_ ?_)) <;> (try (simp (maxSteps := 1000000) (disch := first | exact dq | fail) only [go_sem])))
    | (with_reducible (first | refine wantK_split (fun h => ?_) (fun h => ?_) | refine condK_split (fun h => ?_) (fun h => ?_) | refine pickV_split (fun h => ?_) (fun h => ?_)) <;> (try (simp (maxSteps := 1000000) (disch := first | exact dq | fail) only [go_sem] at h)) <;> (try (simp (maxSteps := 1000000) (disch := first | exact dq | fail) only [go_sem, h])))))
    refine aw_loop (α := Nat) (fun i => ⟨104, sl [(0, .iv (inl l)), (5, .iv (.bool true)), (6, .iv (.int .i64 k)), (7, .msl 0 0 i i), (8, .iv (.int .i64 i))], [.row true 3 1 ((m.take i).map (IV.int .i64))], 0⟩)
      (fun i => i ≤ m.length) (fun i => m.length - i) 0 (wk_by [0] ?_) (by omega) ?_
    · (simp (maxSteps := 1000000) (disch := first | exact dq | fail) only [go_sem])
    rintro i hi
    have htl : (m.take i).length = i := by rw [List.length_take]; omega
    by_cases h : i < m.length
    · have c1 : (i : Int) < l.length := by omega
      have c2 : (i : Int) < 200 := by omega
      have ht := take_snoc m h
      rw [hma i h] at ht
      (repeat' (first
    | ((first | with_reducible (first | refine aw_seq ?_ | refine aw_region (aops_run ?_)) | (with_reducible refine aw_regionD (fun _ => .p) mixed ?_ (dops_run ?_); (· kernel_rfl)) | (with_reducible refine aw_regionD (fun _ => .r) mixed ?_ (dops_run ?_); (· kernel_rfl)) | with_reducible (first | refine aw_condK ?_ | refine aw_skip ?_ | refine aw_ret ?_ | refine aw_exit ?_ | refine aw_label ?_ | refine aw_block ?_ | refine aw_scope ?_ | refine And.intro ?_ ?_)) <;> (try (simp (maxSteps := 1000000) (disch := first | exact dq | fail) only [go_sem, htl, hw, c1, c2, decide_true])))
    | (with_reducible (first | refine wantK_split (fun h => ?_) (fun h => ?_) | refine condK_split (fun h => ?_) (fun h => ?_) | refine pickV_split (fun h => ?_) (fun h => ?_)) <;> (try (simp (maxSteps := 1000000) (disch := first | exact dq | fail) only [go_sem] at h)) <;> (try (simp (maxSteps := 1000000) (disch := first | exact dq | fail) only [go_sem, h, htl, hw, c1, c2, decide_true])))))
      all_goals (try omega)
      refine ⟨i + 1, by omega, wk_by [0] ?_, by omega⟩
      (simp (maxSteps := 1000000) (disch := first | exact dq | fail) only [go_sem, ht, List.map_append])
    · have e : m.take i = m := List.take_of_length_le (by omega)
      obtain rfl : i = m.length := by omega
      rw [e]
      by_cases c1 : m.length < l.length
      · have c1' : (m.length : Int) < l.length := by omega
        have c2 : ¬ ((m.length : Int) < 200) := by omega
        (repeat' (first
    | ((first | with_reducible (first | refine aw_seq ?_ | refine aw_region (aops_run ?_)) | (with_reducible refine aw_regionD (fun _ => .p) mixed ?_ (dops_run ?_); (· kernel_rfl)) | (with_reducible refine aw_regionD (fun _ => .r) mixed ?_ (dops_run ?_); (· kernel_rfl)) | with_reducible (first | refine aw_condK ?_ | refine aw_skip ?_ | refine aw_ret ?_ | refine aw_exit ?_ | refine aw_label ?_ | refine aw_block ?_ | refine aw_scope ?_ | refine And.intro ?_ ?_)) <;> (try (simp (maxSteps := 1000000) (disch := first | exact dq | fail) only [go_sem, c1', c2, decide_true, decide_false])))
    | (with_reducible (first | refine wantK_split (fun h => ?_) (fun h => ?_) | refine condK_split (fun h => ?_) (fun h => ?_) | refine pickV_split (fun h => ?_) (fun h => ?_)) <;> (try (simp (maxSteps := 1000000) (disch := first | exact dq | fail) only [go_sem] at h)) <;> (try (simp (maxSteps := 1000000) (disch := first | exact dq | fail) only [go_sem, h, c1', c2, decide_true, decide_false])))))
        all_goals (try omega)
        refine Wk.trans (wk_frz (i := 7) (y := inl m) (M' := [.row false 3 1 (m.map (IV.int .i64))]) ?_) (wk_by [] ?_) <;> (simp (maxSteps := 1000000) (disch := first | exact dq | fail) only [go_sem])
      · have c1' : ¬ ((m.length : Int) < l.length) := by omega
        (repeat' (first
    | ((first | with_reducible (first | refine aw_seq ?_ | refine aw_region (aops_run ?_)) | (with_reducible refine aw_regionD (fun _ => .p) mixed ?_ (dops_run ?_); (· kernel_rfl)) | (with_reducible refine aw_regionD (fun _ => .r) mixed ?_ (dops_run ?_); (· kernel_rfl)) | with_reducible (first | refine aw_condK ?_ | refine aw_skip ?_ | refine aw_ret ?_ | refine aw_exit ?_ | refine aw_label ?_ | refine aw_block ?_ | refine aw_scope ?_ | refine And.intro ?_ ?_)) <;> (try (simp (maxSteps := 1000000) (disch := first | exact dq | fail) only [go_sem, c1', decide_false])))
    | (with_reducible (first | refine wantK_split (fun h => ?_) (fun h => ?_) | refine condK_split (fun h => ?_) (fun h => ?_) | refine pickV_split (fun h => ?_) (fun h => ?_)) <;> (try (simp (maxSteps := 1000000) (disch := first | exact dq | fail) only [go_sem] at h)) <;> (try (simp (maxSteps := 1000000) (disch := first | exact dq | fail) only [go_sem, h, c1', decide_false])))))
        all_goals (try omega)
        refine Wk.trans (wk_frz (i := 7) (y := inl m) (M' := [.row false 3 1 (m.map (IV.int .i64))]) ?_) (wk_by [] ?_) <;> (simp (maxSteps := 1000000) (disch := first | exact dq | fail) only [go_sem])
  have hA := Array_any m (by omega)
  have hsl := saL_len m
  have hrs := fun i => @rk_sa m i
  have hsr := fun i => @saL_rng m i
  have hwl := fun r q => @sa_wl m r q
  have hsx := fun i (hi : i < m.length) => (sa_rk2 hi).2.2
  have hrr := fun i (hi : i < m.length) => (sa_rk2 hi).1
  generalize saL m = s at *
  generalize rkL m = r at *
  (repeat' (first
    | ((first | with_reducible (first | refine aw_seq ?_ | refine aw_region (aops_run ?_)) | (with_reducible refine aw_regionD (fun _ => .p) mixed ?_ (dops_run ?_); (· kernel_rfl)) | (with_reducible refine aw_regionD (fun _ => .r) mixed ?_ (dops_run ?_); (· kernel_rfl)) | with_reducible (first | refine aw_condK ?_ | refine aw_skip ?_ | refine aw_ret ?_ | refine aw_exit ?_ | refine aw_label ?_ | refine aw_block ?_ | refine aw_scope ?_ | refine And.intro ?_ ?_)) <;> (try (simp (maxSteps := 1000000) (disch := first | exact dq | fail) only [go_sem])))
    | (with_reducible (first | refine wantK_split (fun h => ?_) (fun h => ?_) | refine condK_split (fun h => ?_) (fun h => ?_) | refine pickV_split (fun h => ?_) (fun h => ?_)) <;> (try (simp (maxSteps := 1000000) (disch := first | exact dq | fail) only [go_sem] at h)) <;> (try (simp (maxSteps := 1000000) (disch := first | exact dq | fail) only [go_sem, h])))))
  ((first | with_reducible apply left_callf | with_reducible apply leftD_callf | with_reducible apply leftF_callf); (· with_reducible rfl); (· (simp (maxSteps := 1000000) (disch := first | exact dq | fail) only [go_sem]) <;> rfl); (· exact hA); try (simp (maxSteps := 1000000) (disch := first | exact dq | fail) only [go_sem]))
  have hc0 : (s.length : Int) = m.length := by omega
  (repeat' (first
    | ((first | with_reducible (first | refine aw_seq ?_ | refine aw_region (aops_run ?_)) | (with_reducible refine aw_regionD (fun _ => .p) mixed ?_ (dops_run ?_); (· kernel_rfl)) | (with_reducible refine aw_regionD (fun _ => .r) mixed ?_ (dops_run ?_); (· kernel_rfl)) | with_reducible (first | refine aw_condK ?_ | refine aw_skip ?_ | refine aw_ret ?_ | refine aw_exit ?_ | refine aw_label ?_ | refine aw_block ?_ | refine aw_scope ?_ | refine And.intro ?_ ?_)) <;> (try (simp (maxSteps := 1000000) (disch := first | exact dq | fail) only [go_sem, hc0, eq_self, decide_true])))
    | (with_reducible (first | refine wantK_split (fun h => ?_) (fun h => ?_) | refine condK_split (fun h => ?_) (fun h => ?_) | refine pickV_split (fun h => ?_) (fun h => ?_)) <;> (try (simp (maxSteps := 1000000) (disch := first | exact dq | fail) only [go_sem] at h)) <;> (try (simp (maxSteps := 1000000) (disch := first | exact dq | fail) only [go_sem, h, hc0, eq_self, decide_true])))))
  all_goals (try omega)
  refine aw_loop (α := Nat) (fun i => ⟨104, sl [(5, .iv (.bool true)), (7, .iv (inl m)), (9, .iv (inl s)), (10, .msl 0 0 m.length m.length), (11, .iv (.int .i64 i))], [.row true 4 1 (rowG m.length (fun x => decide (r.getD x 0 < i)))], 0⟩)
    (fun i => i ≤ m.length) (fun i => m.length - i) 0 (wk_by [0] ?_) (by omega) ?_
  · have hz : rowG m.length (fun x => decide (r.getD x 0 < (0 : Int))) = List.replicate m.length (IV.bool false) := by
      rw [rowG_rep]
      exact rowG_congr (fun x hx => decide_eq_false (by have := hrr x hx; omega))
    (simp (maxSteps := 1000000) (disch := first | exact dq | fail) only [go_sem, hz])
  rintro i hi
  have hrl := rowG_len m.length (fun x => decide (r.getD x 0 < i))
  by_cases h : i < m.length
  · obtain ⟨a, ha⟩ : ∃ a : Nat, s.getD i 0 = (a : Int) := ⟨(s.getD i 0).toNat, by have := hsr i h; omega⟩
    have hal := (hsr i h).2
    have hra := hrs i h
    rw [ha] at hal
    rw [ha, Int.toNat_natCast] at hra
    have hga : s[i]? = some (a : Int) := by rw [← ha]; simp [List.getD, List.getElem?_eq_getElem (show i < s.length by omega)]
    have hc1 : (i : Int) < s.length := by omega
    have hc2 : ¬ ((a : Int) < 0) := by omega
    have hc3 : ¬ ((a : Int) ≥ m.length) := by omega
    have hgr := rowG_get (n := m.length) (fun x => decide (r.getD x 0 < i)) (show a < m.length by omega)
    rw [show decide (r.getD a 0 < (i : Int)) = false from decide_eq_false (by omega)] at hgr
    have hset : (rowG m.length (fun x => decide (r.getD x 0 < i))).set a (.bool true) = rowG m.length (fun x => decide (r.getD x 0 < ((i + 1 : Nat) : Int))) := by
      rw [rowG_set]
      refine rowG_congr (fun x hx => ?_)
      by_cases e : x = a
      · subst e; rw [if_pos rfl, hra]; exact (decide_eq_true (by omega)).symm
      · rw [if_neg e]
        have : r.getD x 0 ≠ i := fun e2 => e (by
          have h3 := hsx x hx
          rw [e2, Int.toNat_natCast, ha] at h3; omega)
        rw [decide_eq_decide]; omega
    by_cases h0 : 0 < i
    · obtain ⟨b, hb⟩ : ∃ b : Nat, s.getD (i - 1) 0 = (b : Int) := ⟨(s.getD (i - 1) 0).toNat, by have := hsr (i - 1) (by omega); omega⟩
      have hbl := (hsr (i - 1) (by omega)).2
      rw [hb] at hbl
      have hgb : s[i - 1]? = some (b : Int) := by rw [← hb]; simp [List.getD, List.getElem?_eq_getElem (show i - 1 < s.length by omega)]
      have hw2 := hwl (i - 1) i (by omega) h
      rw [ha, hb, Int.toNat_natCast, Int.toNat_natCast] at hw2
      have hL := RefLess7_spec (m.drop b) (m.drop a) (by rw [List.length_drop]; omega) (by rw [List.length_drop]; omega)
      rw [hw2, inl_drop, inl_drop] at hL
      have hi1 : (i : Int) - 1 = ((i - 1 : Nat) : Int) := by omega
      have hi0 : (i : Int) > 0 := by omega
      (repeat' (first
    | ((first | with_reducible (first | refine aw_seq ?_ | refine aw_region (aops_run ?_)) | (with_reducible refine aw_regionD (fun _ => .p) mixed ?_ (dops_run ?_); (· kernel_rfl)) | (with_reducible refine aw_regionD (fun _ => .r) mixed ?_ (dops_run ?_); (· kernel_rfl)) | with_reducible (first | refine aw_condK ?_ | refine aw_skip ?_ | refine aw_ret ?_ | refine aw_exit ?_ | refine aw_label ?_ | refine aw_block ?_ | refine aw_scope ?_ | refine And.intro ?_ ?_)) <;> (try (simp (maxSteps := 1000000) (disch := first | exact dq | fail) only [go_sem, hc1, hc2, hc3, hga, hgr, hrl, hset, hi0, hi1, hgb, decide_true, decide_false])))
    | (with_reducible (first | refine wantK_split (fun h => ?_) (fun h => ?_) | refine condK_split (fun h => ?_) (fun h => ?_) | refine pickV_split (fun h => ?_) (fun h => ?_)) <;> (try (simp (maxSteps := 1000000) (disch := first | exact dq | fail) only [go_sem] at h)) <;> (try (simp (maxSteps := 1000000) (disch := first | exact dq | fail) only [go_sem, h, hc1, hc2, hc3, hga, hgr, hrl, hset, hi0, hi1, hgb, decide_true, decide_false])))))
      all_goals (try omega)
      ((first | with_reducible apply left_callf | with_reducible apply leftD_callf | with_reducible apply leftF_callf); (· with_reducible rfl); (· (simp (maxSteps := 1000000) (disch := first | exact dq | fail) only [go_sem]) <;> rfl); (· exact hL); try (simp (maxSteps := 1000000) (disch := first | exact dq | fail) only [go_sem]))
      (repeat' (first
    | ((first | with_reducible (first | refine aw_seq ?_ | refine aw_region (aops_run ?_)) | (with_reducible refine aw_regionD (fun _ => .p) mixed ?_ (dops_run ?_); (· kernel_rfl)) | (with_reducible refine aw_regionD (fun _ => .r) mixed ?_ (dops_run ?_); (· kernel_rfl)) | with_reducible (first | refine aw_condK ?_ | refine aw_skip ?_ | refine aw_ret ?_ | refine aw_exit ?_ | refine aw_label ?_ | refine aw_block ?_ | refine aw_scope ?_ | refine And.intro ?_ ?_)) <;> (try (simp (maxSteps := 1000000) (disch := first | exact dq | fail) only [go_sem, hc1, hc2, hc3, hga, hgr, hrl, hset, hi0, hi1, hgb, decide_true, decide_false])))
    | (with_reducible (first | refine wantK_split (fun h => ?_) (fun h => ?_) | refine condK_split (fun h => ?_) (fun h => ?_) | refine pickV_split (fun h => ?_) (fun h => ?_)) <;> (try (simp (maxSteps := 1000000) (disch := first | exact dq | fail) only [go_sem] at h)) <;> (try (simp (maxSteps := 1000000) (disch := first | exact dq | fail) only [go_sem, h, hc1, hc2, hc3, hga, hgr, hrl, hset, hi0, hi1, hgb, decide_true, decide_false])))))
      all_goals (try omega)
      refine ⟨i + 1, by omega, wk_by [0] ?_, by omega⟩
      (simp (maxSteps := 1000000) (disch := first | exact dq | fail) only [go_sem])
    · have hi0 : ¬ ((i : Int) > 0) := by omega
      (repeat' (first
    | ((first | with_reducible (first | refine aw_seq ?_ | refine aw_region (aops_run ?_)) | (with_reducible refine aw_regionD (fun _ => .p) mixed ?_ (dops_run ?_); (· kernel_rfl)) | (with_reducible refine aw_regionD (fun _ => .r) mixed ?_ (dops_run ?_); (· kernel_rfl)) | with_reducible (first | refine aw_condK ?_ | refine aw_skip ?_ | refine aw_ret ?_ | refine aw_exit ?_ | refine aw_label ?_ | refine aw_block ?_ | refine aw_scope ?_ | refine And.intro ?_ ?_)) <;> (try (simp (maxSteps := 1000000) (disch := first | exact dq | fail) only [go_sem, hc1, hc2, hc3, hga, hgr, hrl, hset, hi0, decide_true, decide_false])))
    | (with_reducible (first | refine wantK_split (fun h => ?_) (fun h => ?_) | refine condK_split (fun h => ?_) (fun h => ?_) | refine pickV_split (fun h => ?_) (fun h => ?_)) <;> (try (simp (maxSteps := 1000000) (disch := first | exact dq | fail) only [go_sem] at h)) <;> (try (simp (maxSteps := 1000000) (disch := first | exact dq | fail) only [go_sem, h, hc1, hc2, hc3, hga, hgr, hrl, hset, hi0, decide_true, decide_false])))))
      all_goals (try omega)
      refine ⟨i + 1, by omega, wk_by [0] ?_, by omega⟩
      (simp (maxSteps := 1000000) (disch := first | exact dq | fail) only [go_sem])
  · obtain rfl : i = m.length := by omega
    have hc1 : ¬ ((m.length : Int) < s.length) := by omega
    (repeat' (first
    | ((first | with_reducible (first | refine aw_seq ?_ | refine aw_region (aops_run ?_)) | (with_reducible refine aw_regionD (fun _ => .p) mixed ?_ (dops_run ?_); (· kernel_rfl)) | (with_reducible refine aw_regionD (fun _ => .r) mixed ?_ (dops_run ?_); (· kernel_rfl)) | with_reducible (first | refine aw_condK ?_ | refine aw_skip ?_ | refine aw_ret ?_ | refine aw_exit ?_ | refine aw_label ?_ | refine aw_block ?_ | refine aw_scope ?_ | refine And.intro ?_ ?_)) <;> (try (simp (maxSteps := 1000000) (disch := first | exact dq | fail) only [go_sem, hc1, decide_false])))
    | (with_reducible (first | refine wantK_split (fun h => ?_) (fun h => ?_) | refine condK_split (fun h => ?_) (fun h => ?_) | refine pickV_split (fun h => ?_) (fun h => ?_)) <;> (try (simp (maxSteps := 1000000) (disch := first | exact dq | fail) only [go_sem] at h)) <;> (try (simp (maxSteps := 1000000) (disch := first | exact dq | fail) only [go_sem, h, hc1, decide_false])))))
    all_goals (try omega)
/-- Numbers that are all greater by one. -/
def shL (d : Int) (m : List Int) : List Int := m.map (· + d)
theorem shL_len (d : Int) (m : List Int) : (shL d m).length = m.length := by simp [shL]
theorem sa_shift (d : Int) (m : List Int) : saL (shL d m) = saL m := by
  have hl := shL_len d m
  refine (sa_eq ?_).symm
  have h := saL_sa m
  refine ⟨h.1.imp_of_mem (fun {x y} hx hy hxy => ?_), fun x => by rw [h.2, hl]⟩
  have h1 := (h.2 x).1 hx
  have h2 := (h.2 y).1 hy
  unfold Rs sl2 at hxy ⊢
  rw [← hxy]
  refine wl_same (a := shL d m) (b := m) hl (fun i k hi hk => ?_) _ x.toNat y.toNat (Nat.le_refl _) (by omega) (by omega)
  rw [hl] at hi hk
  unfold shL
  rw [getD_map_at hi, getD_map_at hk]
  omega
theorem rk_shift (d : Int) (m : List Int) : rkL (shL d m) = rkL m := by unfold rkL; rw [sa_shift]
theorem SuffixShift_spec (l : List Int) (n more : Int) : PCalls Try.prog 8 [inl l, .int .i64 n, .int .i64 more] (.bool true) := by
  have em : bitI .and .i64 n 3 = n % 4 := and_maskS n 4 2 (by decide) rfl
  have em2 : bitI .and .i64 more 1023 = more % 1024 := and_maskS more 1024 10 (by decide) rfl
  obtain ⟨k, hk⟩ : ∃ k, k = 1 + n % 4 := ⟨_, rfl⟩
  obtain ⟨d, hd⟩ : ∃ d, d = more % 1024 := ⟨_, rfl⟩
  have hd0 : 0 ≤ d ∧ d < 1024 := by omega
  have hk0 : 0 < k ∧ k ≤ 4 := by omega
  have hw := cutS_wrap hk0.1 (by omega)
  have hml := alkL_len 100 n l
  have hma := fun i => @alkL_at 100 n l i
  have hmr := fun x => @alkL_rng 100 n l x
  rw [← hk] at hma
  generalize alkL 100 n l = m at *
  have hsl := shL_len d m
  have hsa := sa_shift d m
  have hsr := rk_shift d m
  have hst : ∀ i, i < m.length → (shL d m).getD i 0 = m.getD i 0 + d := fun i hi => by unfold shL; exact getD_map_at hi
  generalize shL d m = q at *
  refine PCalls.of_aw Try.func8 rfl (by unfold Callable; kernel_rfl) (by kernel_rfl) (by simp [Try.ntmps8]) ?_; rw [Try.ntmps8, Try.results8]; (simp (maxSteps := 1000000) (disch := first | exact dq | fail) only [go_sem])
  (repeat' (first
    | ((first | with_reducible (first | refine aw_seq ?_ | refine aw_region (aops_run ?_)) | (with_reducible refine aw_regionD (fun _ => .p) mixed ?_ (dops_run ?_); (· kernel_rfl)) | (with_reducible refine aw_regionD (fun _ => .r) mixed ?_ (dops_run ?_); (· kernel_rfl)) | with_reducible (first | refine aw_condK ?_ | refine aw_skip ?_ | refine aw_ret ?_ | refine aw_exit ?_ | refine aw_label ?_ | refine aw_block ?_ | refine aw_scope ?_ | refine And.intro ?_ ?_)) <;> (try (simp (maxSteps := 1000000) (disch := first | exact dq | fail) only [go_sem])))
    | (with_reducible (first | refine wantK_split (fun h => ?_) (fun h => ?_) | refine condK_split (fun h => ?_) (fun h => ?_) | refine pickV_split (fun h => ?_) (fun h => ?_)) <;> (try (simp (maxSteps := 1000000) (disch := first | exact dq | fail) only [go_sem] at h)) <;> (try (simp (maxSteps := 1000000) (disch := first | exact dq | fail) only [go_sem, h])))))
  ((first | with_reducible apply left_callf | with_reducible apply leftD_callf | with_reducible apply leftF_callf); (· with_reducible rfl); (· (simp (maxSteps := 1000000) (disch := first | exact dq | fail) only [go_sem]) <;> rfl); (· exact awake7_spec); try (simp (maxSteps := 1000000) (disch := first | exact dq | fail) only [go_sem]))
  with_reducible refine aw_seq ?_
  with_reducible refine aw_region (aops_run ?_)
  (simp (maxSteps := 1000000) (disch := first | exact dq | fail) only [go_sem, em])
  simp only [← hk]
  with_reducible refine aw_seq ?_
  with_reducible refine aw_region (aops_run ?_)
  (simp (maxSteps := 1000000) (disch := first | exact dq | fail) only [go_sem, em2])
  simp only [← hd]
  ((with_reducible refine aw_seq ?_); (with_reducible refine aw_region (aops_run ?_)); try (simp (maxSteps := 1000000) (disch := first | exact dq | fail) only [go_sem]))
  ((with_reducible refine aw_seq ?_); (with_reducible refine aw_region (aops_run ?_)); try (simp (maxSteps := 1000000) (disch := first | exact dq | fail) only [go_sem]))
  refine aw_cut ⟨77, sl [(7, .iv (.bool true)), (10, .iv (inl m)), (11, .iv (inl q))], [], 0⟩ ?_ ?_
  · (repeat' (first
    | ((first | with_reducible (first | refine aw_seq ?_ | refine aw_region (aops_run ?_)) | (with_reducible refine aw_regionD (fun _ => .p) mixed ?_ (dops_run ?_); (· kernel_rfl)) | (with_reducible refine aw_regionD (fun _ => .r) mixed ?_ (dops_run ?_); (· kernel_rfl)) | with_reducible (first | refine aw_condK ?_ | refine aw_skip ?_ | refine aw_ret ?_ | refine aw_exit ?_ | refine aw_label ?_ | refine aw_block ?_ | refine aw_scope ?_ | refine And.intro ?_ ?_)) <;> (try (simp (maxSteps := 1000000) (disch := first | exact dq | fail) only [go_sem])))
    | (with_reducible (first | refine wantK_split (fun h => ?_) (fun h => ?_) | refine condK_split (fun h => ?_) (fun h => ?_) | refine pickV_split (fun h => ?_) (fun h => ?_)) <;> (try (simp (maxSteps := 1000000) (disch := first | exact dq | fail) only [go_sem] at h)) <;> (try (simp (maxSteps := 1000000) (disch := first | exact dq | fail) only [go_sem, h])))))
    refine aw_loop (α := Nat) (fun i => ⟨77, sl [(0, .iv (inl l)), (7, .iv (.bool true)), (8, .iv (.int .i64 k)), (9, .iv (.int .i64 d)), (10, .msl 0 0 i i), (11, .msl 1 0 i i), (12, .iv (.int .i64 i))], [.row true 3 1 ((m.take i).map (IV.int .i64)), .row true 3 1 ((q.take i).map (IV.int .i64))], 0⟩)
      (fun i => i ≤ m.length) (fun i => m.length - i) 0 (wk_by [0, 1] ?_) (by omega) ?_
    · (simp (maxSteps := 1000000) (disch := first | exact dq | fail) only [go_sem])
    rintro i hi
    have htl : (m.take i).length = i := by rw [List.length_take]; omega
    have htq : (q.take i).length = i := by rw [List.length_take]; omega
    by_cases h : i < m.length
    · have c1 : (i : Int) < l.length := by omega
      have c2 : (i : Int) < 100 := by omega
      have ht := take_snoc m h
      have htt := take_snoc q (j := i) (by omega)
      have hr := hmr _ (getD_mem h)
      rw [hst i h, hma i h] at htt
      rw [hma i h] at ht hr
      obtain ⟨z, hz⟩ : ∃ z, cutS k (l.getD i 0) = z := ⟨_, rfl⟩
      rw [hz] at ht htt hr
      (repeat' (first
    | ((first | with_reducible (first | refine aw_seq ?_ | refine aw_region (aops_run ?_)) | (with_reducible refine aw_regionD (fun _ => .p) mixed ?_ (dops_run ?_); (· kernel_rfl)) | (with_reducible refine aw_regionD (fun _ => .r) mixed ?_ (dops_run ?_); (· kernel_rfl)) | with_reducible (first | refine aw_condK ?_ | refine aw_skip ?_ | refine aw_ret ?_ | refine aw_exit ?_ | refine aw_label ?_ | refine aw_block ?_ | refine aw_scope ?_ | refine And.intro ?_ ?_)) <;> (try (simp (maxSteps := 1000000) (disch := first | exact dq | fail) only [go_sem, htl, htq, hw, hz, c1, c2, decide_true])))
    | (with_reducible (first | refine wantK_split (fun h => ?_) (fun h => ?_) | refine condK_split (fun h => ?_) (fun h => ?_) | refine pickV_split (fun h => ?_) (fun h => ?_)) <;> (try (simp (maxSteps := 1000000) (disch := first | exact dq | fail) only [go_sem] at h)) <;> (try (simp (maxSteps := 1000000) (disch := first | exact dq | fail) only [go_sem, h, htl, htq, hw, hz, c1, c2, decide_true])))))
      all_goals (try omega)
      refine ⟨i + 1, by omega, wk_by [0, 1] ?_, by omega⟩
      (simp (maxSteps := 1000000) (disch := first | exact dq | fail) only [go_sem, ht, htt, List.map_append])
    · have e : m.take i = m := List.take_of_length_le (by omega)
      have e2 : q.take i = q := List.take_of_length_le (by omega)
      have hqi : q.length = i := by omega
      obtain rfl : i = m.length := by omega
      rw [e, e2]
      by_cases c1 : m.length < l.length
      · have c1' : (m.length : Int) < l.length := by omega
        have c2 : ¬ ((m.length : Int) < 100) := by omega
        (repeat' (first
    | ((first | with_reducible (first | refine aw_seq ?_ | refine aw_region (aops_run ?_)) | (with_reducible refine aw_regionD (fun _ => .p) mixed ?_ (dops_run ?_); (· kernel_rfl)) | (with_reducible refine aw_regionD (fun _ => .r) mixed ?_ (dops_run ?_); (· kernel_rfl)) | with_reducible (first | refine aw_condK ?_ | refine aw_skip ?_ | refine aw_ret ?_ | refine aw_exit ?_ | refine aw_label ?_ | refine aw_block ?_ | refine aw_scope ?_ | refine And.intro ?_ ?_)) <;> (try (simp (maxSteps := 1000000) (disch := first | exact dq | fail) only [go_sem, c1', c2, decide_true, decide_false])))
    | (with_reducible (first | refine wantK_split (fun h => ?_) (fun h => ?_) | refine condK_split (fun h => ?_) (fun h => ?_) | refine pickV_split (fun h => ?_) (fun h => ?_)) <;> (try (simp (maxSteps := 1000000) (disch := first | exact dq | fail) only [go_sem] at h)) <;> (try (simp (maxSteps := 1000000) (disch := first | exact dq | fail) only [go_sem, h, c1', c2, decide_true, decide_false])))))
        all_goals (try omega)
        refine Wk.trans (wk_frz (i := 10) (y := inl m) (M' := [.row false 3 1 (m.map (IV.int .i64)), .row true 3 1 (q.map (IV.int .i64))]) ?_) (Wk.trans (wk_frz (i := 11) (y := inl q) (M' := [.row false 3 1 (m.map (IV.int .i64)), .row false 3 1 (q.map (IV.int .i64))]) ?_) (wk_by [] ?_)) <;> (simp (maxSteps := 1000000) (disch := first | exact dq | fail) only [go_sem, ← hqi])
      · have c1' : ¬ ((m.length : Int) < l.length) := by omega
        (repeat' (first
    | ((first | with_reducible (first | refine aw_seq ?_ | refine aw_region (aops_run ?_)) | (with_reducible refine aw_regionD (fun _ => .p) mixed ?_ (dops_run ?_); (· kernel_rfl)) | (with_reducible refine aw_regionD (fun _ => .r) mixed ?_ (dops_run ?_); (· kernel_rfl)) | with_reducible (first | refine aw_condK ?_ | refine aw_skip ?_ | refine aw_ret ?_ | refine aw_exit ?_ | refine aw_label ?_ | refine aw_block ?_ | refine aw_scope ?_ | refine And.intro ?_ ?_)) <;> (try (simp (maxSteps := 1000000) (disch := first | exact dq | fail) only [go_sem, c1', decide_false])))
    | (with_reducible (first | refine wantK_split (fun h => ?_) (fun h => ?_) | refine condK_split (fun h => ?_) (fun h => ?_) | refine pickV_split (fun h => ?_) (fun h => ?_)) <;> (try (simp (maxSteps := 1000000) (disch := first | exact dq | fail) only [go_sem] at h)) <;> (try (simp (maxSteps := 1000000) (disch := first | exact dq | fail) only [go_sem, h, c1', decide_false])))))
        all_goals (try omega)
        refine Wk.trans (wk_frz (i := 10) (y := inl m) (M' := [.row false 3 1 (m.map (IV.int .i64)), .row true 3 1 (q.map (IV.int .i64))]) ?_) (Wk.trans (wk_frz (i := 11) (y := inl q) (M' := [.row false 3 1 (m.map (IV.int .i64)), .row false 3 1 (q.map (IV.int .i64))]) ?_) (wk_by [] ?_)) <;> (simp (maxSteps := 1000000) (disch := first | exact dq | fail) only [go_sem, ← hqi])
  have hl1 := saL_len m
  have hl2 := rkL_len m
  have hA := Array_any m (by omega)
  have hB := Array_any q (by omega)
  have hC := Ranks7_spec m (by omega)
  have hD := Ranks7_spec q (by omega)
  rw [hsa] at hB
  rw [hsr] at hD
  generalize saL m = s at *
  generalize rkL m = r at *
  have hc : (s.length : Int) = m.length := by omega
  (repeat' (first
    | ((first | with_reducible (first | refine aw_seq ?_ | refine aw_region (aops_run ?_)) | (with_reducible refine aw_regionD (fun _ => .p) mixed ?_ (dops_run ?_); (· kernel_rfl)) | (with_reducible refine aw_regionD (fun _ => .r) mixed ?_ (dops_run ?_); (· kernel_rfl)) | with_reducible (first | refine aw_condK ?_ | refine aw_skip ?_ | refine aw_ret ?_ | refine aw_exit ?_ | refine aw_label ?_ | refine aw_block ?_ | refine aw_scope ?_ | refine And.intro ?_ ?_)) <;> (try (simp (maxSteps := 1000000) (disch := first | exact dq | fail) only [go_sem])))
    | (with_reducible (first | refine wantK_split (fun h => ?_) (fun h => ?_) | refine condK_split (fun h => ?_) (fun h => ?_) | refine pickV_split (fun h => ?_) (fun h => ?_)) <;> (try (simp (maxSteps := 1000000) (disch := first | exact dq | fail) only [go_sem] at h)) <;> (try (simp (maxSteps := 1000000) (disch := first | exact dq | fail) only [go_sem, h])))))
  ((first | with_reducible apply left_callf | with_reducible apply leftD_callf | with_reducible apply leftF_callf); (· with_reducible rfl); (· (simp (maxSteps := 1000000) (disch := first | exact dq | fail) only [go_sem]) <;> rfl); (· exact hA); try (simp (maxSteps := 1000000) (disch := first | exact dq | fail) only [go_sem]))
  (repeat' (first
    | ((first | with_reducible (first | refine aw_seq ?_ | refine aw_region (aops_run ?_)) | (with_reducible refine aw_regionD (fun _ => .p) mixed ?_ (dops_run ?_); (· kernel_rfl)) | (with_reducible refine aw_regionD (fun _ => .r) mixed ?_ (dops_run ?_); (· kernel_rfl)) | with_reducible (first | refine aw_condK ?_ | refine aw_skip ?_ | refine aw_ret ?_ | refine aw_exit ?_ | refine aw_label ?_ | refine aw_block ?_ | refine aw_scope ?_ | refine And.intro ?_ ?_)) <;> (try (simp (maxSteps := 1000000) (disch := first | exact dq | fail) only [go_sem])))
    | (with_reducible (first | refine wantK_split (fun h => ?_) (fun h => ?_) | refine condK_split (fun h => ?_) (fun h => ?_) | refine pickV_split (fun h => ?_) (fun h => ?_)) <;> (try (simp (maxSteps := 1000000) (disch := first | exact dq | fail) only [go_sem] at h)) <;> (try (simp (maxSteps := 1000000) (disch := first | exact dq | fail) only [go_sem, h])))))
  ((first | with_reducible apply left_callf | with_reducible apply leftD_callf | with_reducible apply leftF_callf); (· with_reducible rfl); (· (simp (maxSteps := 1000000) (disch := first | exact dq | fail) only [go_sem]) <;> rfl); (· exact hB); try (simp (maxSteps := 1000000) (disch := first | exact dq | fail) only [go_sem]))
  ((first | with_reducible apply left_callf | with_reducible apply leftD_callf | with_reducible apply leftF_callf); (· with_reducible rfl); (· (simp (maxSteps := 1000000) (disch := first | exact dq | fail) only [go_sem]) <;> rfl); (· exact RefSameI_spec s s (by omega)); try (simp (maxSteps := 1000000) (disch := first | exact dq | fail) only [go_sem]))
  (repeat' (first
    | ((first | with_reducible (first | refine aw_seq ?_ | refine aw_region (aops_run ?_)) | (with_reducible refine aw_regionD (fun _ => .p) mixed ?_ (dops_run ?_); (· kernel_rfl)) | (with_reducible refine aw_regionD (fun _ => .r) mixed ?_ (dops_run ?_); (· kernel_rfl)) | with_reducible (first | refine aw_condK ?_ | refine aw_skip ?_ | refine aw_ret ?_ | refine aw_exit ?_ | refine aw_label ?_ | refine aw_block ?_ | refine aw_scope ?_ | refine And.intro ?_ ?_)) <;> (try (simp (maxSteps := 1000000) (disch := first | exact dq | fail) only [go_sem])))
    | (with_reducible (first | refine wantK_split (fun h => ?_) (fun h => ?_) | refine condK_split (fun h => ?_) (fun h => ?_) | refine pickV_split (fun h => ?_) (fun h => ?_)) <;> (try (simp (maxSteps := 1000000) (disch := first | exact dq | fail) only [go_sem] at h)) <;> (try (simp (maxSteps := 1000000) (disch := first | exact dq | fail) only [go_sem, h])))))
  ((first | with_reducible apply left_callf | with_reducible apply leftD_callf | with_reducible apply leftF_callf); (· with_reducible rfl); (· (simp (maxSteps := 1000000) (disch := first | exact dq | fail) only [go_sem]) <;> rfl); (· exact hC); try (simp (maxSteps := 1000000) (disch := first | exact dq | fail) only [go_sem]))
  (repeat' (first
    | ((first | with_reducible (first | refine aw_seq ?_ | refine aw_region (aops_run ?_)) | (with_reducible refine aw_regionD (fun _ => .p) mixed ?_ (dops_run ?_); (· kernel_rfl)) | (with_reducible refine aw_regionD (fun _ => .r) mixed ?_ (dops_run ?_); (· kernel_rfl)) | with_reducible (first | refine aw_condK ?_ | refine aw_skip ?_ | refine aw_ret ?_ | refine aw_exit ?_ | refine aw_label ?_ | refine aw_block ?_ | refine aw_scope ?_ | refine And.intro ?_ ?_)) <;> (try (simp (maxSteps := 1000000) (disch := first | exact dq | fail) only [go_sem])))
    | (with_reducible (first | refine wantK_split (fun h => ?_) (fun h => ?_) | refine condK_split (fun h => ?_) (fun h => ?_) | refine pickV_split (fun h => ?_) (fun h => ?_)) <;> (try (simp (maxSteps := 1000000) (disch := first | exact dq | fail) only [go_sem] at h)) <;> (try (simp (maxSteps := 1000000) (disch := first | exact dq | fail) only [go_sem, h])))))
  ((first | with_reducible apply left_callf | with_reducible apply leftD_callf | with_reducible apply leftF_callf); (· with_reducible rfl); (· (simp (maxSteps := 1000000) (disch := first | exact dq | fail) only [go_sem]) <;> rfl); (· exact hD); try (simp (maxSteps := 1000000) (disch := first | exact dq | fail) only [go_sem]))
  ((first | with_reducible apply left_callf | with_reducible apply leftD_callf | with_reducible apply leftF_callf); (· with_reducible rfl); (· (simp (maxSteps := 1000000) (disch := first | exact dq | fail) only [go_sem]) <;> rfl); (· exact RefSameI_spec r r (by omega)); try (simp (maxSteps := 1000000) (disch := first | exact dq | fail) only [go_sem]))
  (repeat' (first
    | ((first | with_reducible (first | refine aw_seq ?_ | refine aw_region (aops_run ?_)) | (with_reducible refine aw_regionD (fun _ => .p) mixed ?_ (dops_run ?_); (· kernel_rfl)) | (with_reducible refine aw_regionD (fun _ => .r) mixed ?_ (dops_run ?_); (· kernel_rfl)) | with_reducible (first | refine aw_condK ?_ | refine aw_skip ?_ | refine aw_ret ?_ | refine aw_exit ?_ | refine aw_label ?_ | refine aw_block ?_ | refine aw_scope ?_ | refine And.intro ?_ ?_)) <;> (try (simp (maxSteps := 1000000) (disch := first | exact dq | fail) only [go_sem])))
    | (with_reducible (first | refine wantK_split (fun h => ?_) (fun h => ?_) | refine condK_split (fun h => ?_) (fun h => ?_) | refine pickV_split (fun h => ?_) (fun h => ?_)) <;> (try (simp (maxSteps := 1000000) (disch := first | exact dq | fail) only [go_sem] at h)) <;> (try (simp (maxSteps := 1000000) (disch := first | exact dq | fail) only [go_sem, h])))))
  ((first | with_reducible apply left_callf | with_reducible apply leftD_callf | with_reducible apply leftF_callf); (· with_reducible rfl); (· (simp (maxSteps := 1000000) (disch := first | exact dq | fail) only [go_sem]) <;> rfl); (· exact hA); try (simp (maxSteps := 1000000) (disch := first | exact dq | fail) only [go_sem]))
  (repeat' (first
    | ((first | with_reducible (first | refine aw_seq ?_ | refine aw_region (aops_run ?_)) | (with_reducible refine aw_regionD (fun _ => .p) mixed ?_ (dops_run ?_); (· kernel_rfl)) | (with_reducible refine aw_regionD (fun _ => .r) mixed ?_ (dops_run ?_); (· kernel_rfl)) | with_reducible (first | refine aw_condK ?_ | refine aw_skip ?_ | refine aw_ret ?_ | refine aw_exit ?_ | refine aw_label ?_ | refine aw_block ?_ | refine aw_scope ?_ | refine And.intro ?_ ?_)) <;> (try (simp (maxSteps := 1000000) (disch := first | exact dq | fail) only [go_sem, hc, eq_self, decide_true])))
    | (with_reducible (first | refine wantK_split (fun h => ?_) (fun h => ?_) | refine condK_split (fun h => ?_) (fun h => ?_) | refine pickV_split (fun h => ?_) (fun h => ?_)) <;> (try (simp (maxSteps := 1000000) (disch := first | exact dq | fail) only [go_sem] at h)) <;> (try (simp (maxSteps := 1000000) (disch := first | exact dq | fail) only [go_sem, h, hc, eq_self, decide_true])))))
end Go.Proofs.Ytejhomoafhnipaa.AM
