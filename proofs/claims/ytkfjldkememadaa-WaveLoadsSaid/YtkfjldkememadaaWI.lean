
/- The law WaveLoads, as a call. No condition. -/
import Derived.Test.YtkfjldkememadaaWH
set_option linter.unusedVariables false
set_option linter.unusedSimpArgs false
set_option maxRecDepth 20000
namespace Go.Proofs.Ytkfjldkememadaa.AM
open Go Go.RowKit

def cutR (near : Bool) (p0 : Nat) (r : List Bool) : List Bool := if near = true then (r.take 60).take p0 else r.take 60
def cutL (near : Bool) (l : List (List Bool)) : List (List Bool) := (l.take 6).map (cutR near (min 60 (l.getD 0 []).length))
theorem cutL_len (near : Bool) (l : List (List Bool)) : (cutL near l).length = min 6 l.length := by unfold cutL; rw [List.length_map, List.length_take]
theorem cutL_get (near : Bool) (l : List (List Bool)) {i : Nat} (h : i < min 6 l.length) : (cutL near l).getD i [] = cutR near (min 60 (l.getD 0 []).length) (l.getD i []) := by
  unfold cutL
  simp [List.getD, List.getElem?_take, show i < 6 by omega, List.getElem?_eq_getElem (show i < l.length by omega)]
theorem cutR_len (near : Bool) (p0 : Nat) (r : List Bool) : (cutR near p0 r).length ≤ 60 := by
  unfold cutR; split <;> simp only [List.length_take] <;> omega
theorem cutR_zero (near : Bool) (r : List Bool) : cutR near (min 60 r.length) r = r.take 60 := by
  unfold cutR
  split
  · rw [List.take_take, show min (min 60 r.length) 60 = min 60 r.length by omega]
    by_cases h : 60 ≤ r.length
    · rw [show min 60 r.length = 60 by omega]
    · rw [show min 60 r.length = r.length by omega, List.take_length, List.take_of_length_le (by omega)]
  · rfl
theorem rows_back {m : List Int} {W : Nat} {rows : List (List Bool)} (hw : WOk m W rows) : rowsOf m W = rows := by
  apply List.ext_getElem (by rw [rowsOf_len, hw.len])
  intro k h1 h2
  have h3 : k < W := by rw [← hw.len]; exact h2
  have := hw.row k h3
  rw [show rows.getD k [] = rows[k] by simp [List.getD, List.getElem?_eq_getElem h2]] at this
  rw [this]
  simp [rowsOf]; rfl
set_option maxHeartbeats 8000000 in
theorem WaveLoads_spec (l : List (List Bool)) (q0 q1 : Int) (near : Bool) : PCalls Try.prog 8 [.sl 1 (l.map blsV), .agg [.int .i64 q0, .int .i64 q1], .bool near] (.bool true) := by
  obtain ⟨R, hR⟩ : ∃ R, R = cutL near l := ⟨_, rfl⟩
  have hRl : R.length = min 6 l.length := by rw [hR, cutL_len]
  have hRg : ∀ i, i < min 6 l.length → R.getD i [] = cutR near (min 60 (l.getD 0 []).length) (l.getD i []) := fun i h => by rw [hR, cutL_get near l h]
  clear hR
  have hR60 : ∀ i, (R.getD i []).length ≤ 60 := fun i => by
    by_cases h : i < R.length
    · rw [hRg i (by omega)]; exact cutR_len _ _ _
    · simp [List.getD, List.getElem?_eq_none (Nat.le_of_not_lt h)]
  refine PCalls.of_aw Try.func8 rfl (by unfold Callable; kernel_rfl) (by kernel_rfl) (by simp [Try.ntmps8]) ?_; rw [Try.ntmps8, Try.results8]; (simp (maxSteps := 1000000) (disch := first | exact dq | fail) only [go_sem])
  (repeat' (first
    | ((first | with_reducible (first | refine aw_seq ?_ | refine aw_region (aops_run ?_)) | (with_reducible refine aw_regionD (fun _ => .p) mixed ?_ (dops_run ?_); (· kernel_rfl)) | (with_reducible refine aw_regionD (fun _ => .r) mixed ?_ (dops_run ?_); (· kernel_rfl)) | with_reducible (first | refine aw_condK ?_ | refine aw_skip ?_ | refine aw_ret ?_ | refine aw_exit ?_ | refine aw_label ?_ | refine aw_block ?_ | refine aw_scope ?_ | refine And.intro ?_ ?_)) <;> (try (simp (maxSteps := 1000000) (disch := first | exact dq | fail) only [go_sem])))
    | (with_reducible (first | refine wantK_split (fun h => ?_) (fun h => ?_) | refine condK_split (fun h => ?_) (fun h => ?_) | refine pickV_split (fun h => ?_) (fun h => ?_)) <;> (try (simp (maxSteps := 1000000) (disch := first | exact dq | fail) only [go_sem] at h)) <;> (try (simp (maxSteps := 1000000) (disch := first | exact dq | fail) only [go_sem, h])))))
  ((first | with_reducible apply left_callf | with_reducible apply leftD_callf | with_reducible apply leftF_callf); (· with_reducible rfl); (· (simp (maxSteps := 1000000) (disch := first | exact dq | fail) only [go_sem]) <;> rfl); (· exact awake4_spec); try (simp (maxSteps := 1000000) (disch := first | exact dq | fail) only [go_sem]))
  (repeat' (first
    | ((first | with_reducible (first | refine aw_seq ?_ | refine aw_region (aops_run ?_)) | (with_reducible refine aw_regionD (fun _ => .p) mixed ?_ (dops_run ?_); (· kernel_rfl)) | (with_reducible refine aw_regionD (fun _ => .r) mixed ?_ (dops_run ?_); (· kernel_rfl)) | with_reducible (first | refine aw_condK ?_ | refine aw_skip ?_ | refine aw_ret ?_ | refine aw_exit ?_ | refine aw_label ?_ | refine aw_block ?_ | refine aw_scope ?_ | refine And.intro ?_ ?_)) <;> (try (simp (maxSteps := 1000000) (disch := first | exact dq | fail) only [go_sem])))
    | (with_reducible (first | refine wantK_split (fun h => ?_) (fun h => ?_) | refine condK_split (fun h => ?_) (fun h => ?_) | refine pickV_split (fun h => ?_) (fun h => ?_)) <;> (try (simp (maxSteps := 1000000) (disch := first | exact dq | fail) only [go_sem] at h)) <;> (try (simp (maxSteps := 1000000) (disch := first | exact dq | fail) only [go_sem, h])))))
  refine aw_postE (β := Unit) (fun _ => ⟨148, sl [(2, .iv (.bool near)), (4, .mp 0 0), (7, .iv (.bool true)), (8, .iv (.sl 2 (R.map bitsV))), (9, .iv (.sl 1 (R.map blsV)))], [.var 58 [.iv (.int .i64 q0), .iv (.int .i64 q1)]], 0⟩) (fun _ => True) ?_ ?_
  · refine aw_loop (α := Nat) (fun i => ⟨148, sl [(0, .iv (.sl 1 (l.map blsV))), (2, .iv (.bool near)), (4, .mp 0 0), (7, .iv (.bool true)), (8, .msl 1 0 i i), (9, .msl 2 0 i i), (10, .iv (.int .i64 i))],
        [.var 58 [.iv (.int .i64 q0), .iv (.int .i64 q1)], .row true 56 2 ((R.take i).map bitsV), .row true 53 1 ((R.take i).map blsV)], 0⟩)
        (fun i => i ≤ R.length) (fun i => R.length - i) 0 (wk_by [0, 1, 2] ?_) (by omega) ?_
    · (simp (maxSteps := 1000000) (disch := first | exact dq | fail) only [go_sem])
      try exact ⟨rfl, rfl⟩
    rintro i hi
    by_cases g : i < R.length
    · have hc : (i : Int) < l.length := by omega
      have hc6 : (i : Int) < 6 := by omega
      have hg : l[i]? = some (l.getD i []) := by simp [List.getD, List.getElem?_eq_getElem (show i < l.length by omega)]
      have ht : R.take (i + 1) = R.take i ++ [R.getD i []] := by rw [List.take_add_one, List.getElem?_eq_getElem g]; simp [List.getD, List.getElem?_eq_getElem g]
      have htl : (R.take i).length = i := by rw [List.length_take]; omega
      have hRi := hRg i (by omega)
      have hB := Make_spec (R.getD i []) (by have := hR60 i; omega)
      generalize hr : l.getD i [] = r at *
      have hr60 : (r.take 60).length ≤ 60 := by rw [List.length_take]; omega
      have hp0 : 0 < i → R[0]? = some (R.getD 0 []) ∧ (R.getD 0 []).length = min 60 (l.getD 0 []).length := fun h => by
        refine ⟨by simp [List.getD, List.getElem?_eq_getElem (show 0 < R.length by omega)], ?_⟩
        rw [hRg 0 (by omega), cutR_zero, List.length_take]
      have hy : R.getD i [] = if near = true ∧ 0 < i ∧ (R.getD 0 []).length < (r.take 60).length then (r.take 60).take (R.getD 0 []).length else r.take 60 := by
        rw [hRi]
        by_cases h0 : 0 < i
        · rw [← (hp0 h0).2]
          unfold cutR
          cases near
          · simp
          · rw [if_pos rfl]
            by_cases h2 : (R.getD 0 []).length < (r.take 60).length
            · rw [if_pos ⟨rfl, h0, h2⟩]
            · rw [if_neg (fun h => h2 h.2.2), List.take_of_length_le (by omega)]
        · obtain rfl : i = 0 := by omega
          rw [if_neg (fun h => h0 h.2.1), hr, cutR_zero]
      clear hRi
      have hd0 : ∀ i, decide (0 < (i : Int)) = decide (0 < i) := fun i => rfl
      have ec : ∀ (n : Nat) (z : List Bool), IV.sl 1 (List.take n (z.map .bool)) = blsV (z.take n) := fun n z => by unfold blsV; rw [List.map_take]
      obtain ⟨x, hx⟩ : ∃ x, x = r.take 60 := ⟨_, rfl⟩
      obtain ⟨p, hp⟩ : ∃ p, p = R.getD 0 [] := ⟨_, rfl⟩
      rw [← hx] at hy hr60
      rw [← hp] at hy hp0
      generalize R.getD i [] = y at *
      have h60 : ((60 < (r.length : Int)) = True ∧ IV.sl 1 (List.take 60 (r.map .bool)) = blsV x ∧ 60 ≤ r.length) ∨ ((60 < (r.length : Int)) = False ∧ IV.sl 1 (List.take 60 (r.map .bool)) = blsV x ∧ x = r) := by
        have := ec 60 r
        rw [← hx] at this
        by_cases h : 60 < r.length
        · exact .inl ⟨eq_true (by omega), this, by omega⟩
        · exact .inr ⟨eq_false (by omega), this, by rw [hx, List.take_of_length_le (by omega)]⟩
      have hnr : (near = false ∧ mostI [] = 0 ∧ mostI [] = 0 ∧ mostI [] = 0 ∧ mostI [] = 0 ∧ y = x) ∨ (near = true ∧ (0 < (i : Int)) = False ∧ mostI [] = 0 ∧ mostI [] = 0 ∧ mostI [] = 0 ∧ y = x) ∨
        (near = true ∧ (0 < (i : Int)) = True ∧ ((p.length : Int) < (x.length : Int)) = True ∧ IV.sl 1 (List.take p.length (x.map .bool)) = blsV y ∧ (List.map blsV (List.take i R))[0]? = some (blsV p) ∧ 0 < i ∧ p.length < x.length) ∨
        (near = true ∧ (0 < (i : Int)) = True ∧ ((p.length : Int) < (x.length : Int)) = False ∧ mostI [] = 0 ∧ (List.map blsV (List.take i R))[0]? = some (blsV p) ∧ 0 < i ∧ y = x) := by
        cases near
        · exact .inl ⟨rfl, rfl, rfl, rfl, rfl, by rw [hy]; simp⟩
        · by_cases h0 : 0 < i
          · obtain ⟨g1, g2⟩ := hp0 h0
            have g3 : (List.map blsV (List.take i R))[0]? = some (blsV p) := by rw [List.getElem?_map, List.getElem?_take, if_pos h0, g1]; rfl
            by_cases h2 : p.length < x.length
            · exact .inr (.inr (.inl ⟨rfl, eq_true (by omega), eq_true (by omega), by rw [ec, hy, if_pos ⟨rfl, h0, h2⟩], g3, h0, h2⟩))
            · exact .inr (.inr (.inr ⟨rfl, eq_true (by omega), eq_false (by omega), rfl, g3, h0, by rw [hy, if_neg (fun h => h2 h.2.2)]⟩))
          · exact .inr (.inl ⟨rfl, eq_false (by omega), rfl, rfl, rfl, by rw [hy, if_neg (fun h => h0 h.2.1)]⟩)
      clear hy hp0 hd0 ec
      rcases h60 with ⟨c60, E1, h60⟩ | ⟨c60, E1, rfl⟩ <;> rcases hnr with ⟨rfl, c0, cp, E2, hM0, rfl⟩ | ⟨rfl, c0, cp, E2, hM0, rfl⟩ | ⟨rfl, c0, cp, E2, hM0, h0, hpx⟩ | ⟨rfl, c0, cp, E2, hM0, h0, rfl⟩
      all_goals (
        (repeat' (first
    | ((first | with_reducible (first | refine aw_seq ?_ | refine aw_region (aops_run ?_)) | (with_reducible refine aw_regionD (fun _ => .p) mixed ?_ (dops_run ?_); (· kernel_rfl)) | (with_reducible refine aw_regionD (fun _ => .r) mixed ?_ (dops_run ?_); (· kernel_rfl)) | with_reducible (first | refine aw_condK ?_ | refine aw_skip ?_ | refine aw_ret ?_ | refine aw_exit ?_ | refine aw_label ?_ | refine aw_block ?_ | refine aw_scope ?_ | refine And.intro ?_ ?_)) <;> (try (simp (maxSteps := 1000000) (disch := first | exact dq | fail) only [go_sem, hc, hc6, hg, c60, E1, c0, cp, E2, hM0, htl, decide_true, decide_false])))
    | (with_reducible (first | refine wantK_split (fun h => ?_) (fun h => ?_) | refine condK_split (fun h => ?_) (fun h => ?_) | refine pickV_split (fun h => ?_) (fun h => ?_)) <;> (try (simp (maxSteps := 1000000) (disch := first | exact dq | fail) only [go_sem] at h)) <;> (try (simp (maxSteps := 1000000) (disch := first | exact dq | fail) only [go_sem, h, hc, hc6, hg, c60, E1, c0, cp, E2, hM0, htl, decide_true, decide_false])))))
        all_goals (try omega)
        ((first | with_reducible apply left_callf | with_reducible apply leftD_callf | with_reducible apply leftF_callf); (· with_reducible rfl); (· (simp (maxSteps := 1000000) (disch := first | exact dq | fail) only [go_sem]) <;> rfl); (· exact hB); try (simp (maxSteps := 1000000) (disch := first | exact dq | fail) only [go_sem]))
        (repeat' (first
    | ((first | with_reducible (first | refine aw_seq ?_ | refine aw_region (aops_run ?_)) | (with_reducible refine aw_regionD (fun _ => .p) mixed ?_ (dops_run ?_); (· kernel_rfl)) | (with_reducible refine aw_regionD (fun _ => .r) mixed ?_ (dops_run ?_); (· kernel_rfl)) | with_reducible (first | refine aw_condK ?_ | refine aw_skip ?_ | refine aw_ret ?_ | refine aw_exit ?_ | refine aw_label ?_ | refine aw_block ?_ | refine aw_scope ?_ | refine And.intro ?_ ?_)) <;> (try (simp (maxSteps := 1000000) (disch := first | exact dq | fail) only [go_sem, htl])))
    | (with_reducible (first | refine wantK_split (fun h => ?_) (fun h => ?_) | refine condK_split (fun h => ?_) (fun h => ?_) | refine pickV_split (fun h => ?_) (fun h => ?_)) <;> (try (simp (maxSteps := 1000000) (disch := first | exact dq | fail) only [go_sem] at h)) <;> (try (simp (maxSteps := 1000000) (disch := first | exact dq | fail) only [go_sem, h, htl])))))
        all_goals (try omega)
        refine ⟨i + 1, by omega, wk_by [0, 1, 2] ?_, by omega⟩
        (simp (maxSteps := 1000000) (disch := first | exact dq | fail) only [go_sem, ht, List.map_append]))
    · obtain rfl : i = R.length := by omega
      have hc2 : ((R.length : Int) < l.length) = True ∧ ((R.length : Int) < 6) = False ∨ ((R.length : Int) < l.length) = False ∧ mostI [] = 0 := by
        by_cases h : R.length < l.length
        · exact .inl ⟨eq_true (by omega), eq_false (by omega)⟩
        · exact .inr ⟨eq_false (by omega), rfl⟩
      rw [List.take_length]
      rcases hc2 with ⟨c1, c2⟩ | ⟨c1, c2⟩
      all_goals (
        (repeat' (first
    | ((first | with_reducible (first | refine aw_seq ?_ | refine aw_region (aops_run ?_)) | (with_reducible refine aw_regionD (fun _ => .p) mixed ?_ (dops_run ?_); (· kernel_rfl)) | (with_reducible refine aw_regionD (fun _ => .r) mixed ?_ (dops_run ?_); (· kernel_rfl)) | with_reducible (first | refine aw_condK ?_ | refine aw_skip ?_ | refine aw_ret ?_ | refine aw_exit ?_ | refine aw_label ?_ | refine aw_block ?_ | refine aw_scope ?_ | refine And.intro ?_ ?_)) <;> (try (simp (maxSteps := 1000000) (disch := first | exact dq | fail) only [go_sem, c1, c2, decide_true, decide_false])))
    | (with_reducible (first | refine wantK_split (fun h => ?_) (fun h => ?_) | refine condK_split (fun h => ?_) (fun h => ?_) | refine pickV_split (fun h => ?_) (fun h => ?_)) <;> (try (simp (maxSteps := 1000000) (disch := first | exact dq | fail) only [go_sem] at h)) <;> (try (simp (maxSteps := 1000000) (disch := first | exact dq | fail) only [go_sem, h, c1, c2, decide_true, decide_false])))))
        refine ⟨(), (wk_frz (i := 8) (y := .sl 2 (R.map bitsV)) (M' := [.var 58 [.iv (.int .i64 q0), .iv (.int .i64 q1)], .row false 56 2 (R.map bitsV), .row true 53 1 (R.map blsV)]) ?_).trans
          ((wk_frz (i := 9) (y := .sl 1 (R.map blsV)) (M' := [.var 58 [.iv (.int .i64 q0), .iv (.int .i64 q1)], .row false 56 2 (R.map bitsV), .row false 53 1 (R.map blsV)]) ?_).trans (wk_by [0] ?_))⟩
        · (simp (maxSteps := 1000000) (disch := first | exact dq | fail) only [go_sem])
        · (simp (maxSteps := 1000000) (disch := first | exact dq | fail) only [go_sem])
        · (simp (maxSteps := 1000000) (disch := first | exact dq | fail) only [go_sem]))
  rintro _ _
  clear hRg
  have hR6 : R.length ≤ 6 := by omega
  clear hRl
  ((with_reducible refine aw_seq ?_); (with_reducible refine aw_region (aops_run ?_)); try (simp (maxSteps := 1000000) (disch := first | exact dq | fail) only [go_sem]))
  obtain ⟨n1, hn1⟩ : ∃ n1 : Int, (near = false ∧ n1 = q0) ∨ (near = true ∧ R = [] ∧ n1 = 0) ∨ (near = true ∧ ∃ r t, R = r :: t ∧ n1 = r.length) := by
    cases near
    · exact ⟨q0, .inl ⟨rfl, rfl⟩⟩
    · cases R with
      | nil => exact ⟨0, .inr (.inl ⟨rfl, rfl, rfl⟩)⟩
      | cons r t => exact ⟨r.length, .inr (.inr ⟨rfl, r, t, rfl, rfl⟩)⟩
  refine aw_cut ⟨148, sl [(4, .mp 0 0), (7, .iv (.bool true)), (8, .iv (.sl 2 (R.map bitsV))), (9, .iv (.sl 1 (R.map blsV))), (12, .iv (.int .i64 n1))], [.var 58 [.iv (.int .i64 q0), .iv (.int .i64 q1)]], 0⟩ ?_ ?_
  · rcases hn1 with ⟨rfl, rfl⟩ | ⟨rfl, rfl, rfl⟩ | ⟨rfl, r, t, rfl, rfl⟩
    all_goals (
      (repeat' (first
    | ((first | with_reducible (first | refine aw_seq ?_ | refine aw_region (aops_run ?_)) | (with_reducible refine aw_regionD (fun _ => .p) mixed ?_ (dops_run ?_); (· kernel_rfl)) | (with_reducible refine aw_regionD (fun _ => .r) mixed ?_ (dops_run ?_); (· kernel_rfl)) | with_reducible (first | refine aw_condK ?_ | refine aw_skip ?_ | refine aw_ret ?_ | refine aw_exit ?_ | refine aw_label ?_ | refine aw_block ?_ | refine aw_scope ?_ | refine And.intro ?_ ?_)) <;> (try (simp (maxSteps := 1000000) (disch := first | exact dq | fail) only [go_sem])))
    | (with_reducible (first | refine wantK_split (fun h => ?_) (fun h => ?_) | refine condK_split (fun h => ?_) (fun h => ?_) | refine pickV_split (fun h => ?_) (fun h => ?_)) <;> (try (simp (maxSteps := 1000000) (disch := first | exact dq | fail) only [go_sem] at h)) <;> (try (simp (maxSteps := 1000000) (disch := first | exact dq | fail) only [go_sem, h])))))
      all_goals (try omega)
      refine wk_by [0] ?_
      (simp (maxSteps := 1000000) (disch := first | exact dq | fail) only [go_sem]))
  obtain ⟨n2, hn2⟩ : ∃ n2 : Int, ((n1 > 5000) = True ∧ (n1 ≤ 16777216) = True ∧ n2 = 5000) ∨ ((n1 > 5000) = True ∧ (n1 ≤ 16777216) = False ∧ n2 = n1) ∨ ((n1 > 5000) = False ∧ mostI [] = 0 ∧ n2 = n1) := by
    by_cases h1 : n1 > 5000
    · by_cases h2 : n1 ≤ 16777216
      · exact ⟨5000, .inl ⟨eq_true h1, eq_true h2, rfl⟩⟩
      · exact ⟨n1, .inr (.inl ⟨eq_true h1, eq_false h2, rfl⟩)⟩
    · exact ⟨n1, .inr (.inr ⟨eq_false h1, rfl, rfl⟩)⟩
  refine aw_cut ⟨148, sl [(4, .mp 0 0), (7, .iv (.bool true)), (8, .iv (.sl 2 (R.map bitsV))), (9, .iv (.sl 1 (R.map blsV))), (12, .iv (.int .i64 n2))], [.var 58 [.iv (.int .i64 q0), .iv (.int .i64 q1)]], 0⟩ ?_ ?_
  · rcases hn2 with ⟨c1, c2, rfl⟩ | ⟨c1, c2, rfl⟩ | ⟨c1, c2, rfl⟩
    all_goals (
      (repeat' (first
    | ((first | with_reducible (first | refine aw_seq ?_ | refine aw_region (aops_run ?_)) | (with_reducible refine aw_regionD (fun _ => .p) mixed ?_ (dops_run ?_); (· kernel_rfl)) | (with_reducible refine aw_regionD (fun _ => .r) mixed ?_ (dops_run ?_); (· kernel_rfl)) | with_reducible (first | refine aw_condK ?_ | refine aw_skip ?_ | refine aw_ret ?_ | refine aw_exit ?_ | refine aw_label ?_ | refine aw_block ?_ | refine aw_scope ?_ | refine And.intro ?_ ?_)) <;> (try (simp (maxSteps := 1000000) (disch := first | exact dq | fail) only [go_sem, c1, c2, decide_true, decide_false])))
    | (with_reducible (first | refine wantK_split (fun h => ?_) (fun h => ?_) | refine condK_split (fun h => ?_) (fun h => ?_) | refine pickV_split (fun h => ?_) (fun h => ?_)) <;> (try (simp (maxSteps := 1000000) (disch := first | exact dq | fail) only [go_sem] at h)) <;> (try (simp (maxSteps := 1000000) (disch := first | exact dq | fail) only [go_sem, h, c1, c2, decide_true, decide_false])))))
      all_goals (try omega)
      refine wk_by [0] ?_
      (simp (maxSteps := 1000000) (disch := first | exact dq | fail) only [go_sem]))
  have hn3 : ¬ (16777216 < n2) → n2 ≤ 5000 := by
    rcases hn2 with ⟨c1, c2, rfl⟩ | ⟨c1, c2, rfl⟩ | ⟨c1, c2, rfl⟩
    · omega
    · simp at c1 c2; omega
    · simp at c1; omega
  clear hn1 hn2
  obtain ⟨s, hs⟩ : ∃ s, s = q1.tmod 65 := ⟨_, rfl⟩
  have hs1 : -65 < s ∧ s < 65 := by
    have h1 := Int.tmod_lt_of_pos q1 (show (0 : Int) < 65 by omega)
    have h2 := Int.lt_tmod_of_pos q1 (show (0 : Int) < 65 by omega)
    omega
  have hz1 := WLen_spec 0 0 []
  have hz2 := WSize_spec 0 0 []
  by_cases hbad : badL n2 s R.length
  · have hL := Load_no1 n2 s R hbad
    unfold bitsL waveV at *
    rw [hs] at hL
    (repeat' (first
    | ((first | with_reducible (first | refine aw_seq ?_ | refine aw_region (aops_run ?_)) | (with_reducible refine aw_regionD (fun _ => .p) mixed ?_ (dops_run ?_); (· kernel_rfl)) | (with_reducible refine aw_regionD (fun _ => .r) mixed ?_ (dops_run ?_); (· kernel_rfl)) | with_reducible (first | refine aw_condK ?_ | refine aw_skip ?_ | refine aw_ret ?_ | refine aw_exit ?_ | refine aw_label ?_ | refine aw_block ?_ | refine aw_scope ?_ | refine And.intro ?_ ?_)) <;> (try (simp (maxSteps := 1000000) (disch := first | exact dq | fail) only [go_sem])))
    | (with_reducible (first | refine wantK_split (fun h => ?_) (fun h => ?_) | refine condK_split (fun h => ?_) (fun h => ?_) | refine pickV_split (fun h => ?_) (fun h => ?_)) <;> (try (simp (maxSteps := 1000000) (disch := first | exact dq | fail) only [go_sem] at h)) <;> (try (simp (maxSteps := 1000000) (disch := first | exact dq | fail) only [go_sem, h])))))
    ((first | with_reducible apply left_callf | with_reducible apply leftD_callf | with_reducible apply leftF_callf); (· with_reducible rfl); (· (simp (maxSteps := 1000000) (disch := first | exact dq | fail) only [go_sem]) <;> rfl); (· exact hL); try (simp (maxSteps := 1000000) (disch := first | exact dq | fail) only [go_sem]))
    (repeat' (first
    | ((first | with_reducible (first | refine aw_seq ?_ | refine aw_region (aops_run ?_)) | (with_reducible refine aw_regionD (fun _ => .p) mixed ?_ (dops_run ?_); (· kernel_rfl)) | (with_reducible refine aw_regionD (fun _ => .r) mixed ?_ (dops_run ?_); (· kernel_rfl)) | with_reducible (first | refine aw_condK ?_ | refine aw_skip ?_ | refine aw_ret ?_ | refine aw_exit ?_ | refine aw_label ?_ | refine aw_block ?_ | refine aw_scope ?_ | refine And.intro ?_ ?_)) <;> (try (simp (maxSteps := 1000000) (disch := first | exact dq | fail) only [go_sem])))
    | (with_reducible (first | refine wantK_split (fun h => ?_) (fun h => ?_) | refine condK_split (fun h => ?_) (fun h => ?_) | refine pickV_split (fun h => ?_) (fun h => ?_)) <;> (try (simp (maxSteps := 1000000) (disch := first | exact dq | fail) only [go_sem] at h)) <;> (try (simp (maxSteps := 1000000) (disch := first | exact dq | fail) only [go_sem, h])))))
    ((first | with_reducible apply left_callf | with_reducible apply leftD_callf | with_reducible apply leftF_callf); (· with_reducible rfl); (· (simp (maxSteps := 1000000) (disch := first | exact dq | fail) only [go_sem]) <;> rfl); (· exact hz1); try (simp (maxSteps := 1000000) (disch := first | exact dq | fail) only [go_sem]))
    (repeat' (first
    | ((first | with_reducible (first | refine aw_seq ?_ | refine aw_region (aops_run ?_)) | (with_reducible refine aw_regionD (fun _ => .p) mixed ?_ (dops_run ?_); (· kernel_rfl)) | (with_reducible refine aw_regionD (fun _ => .r) mixed ?_ (dops_run ?_); (· kernel_rfl)) | with_reducible (first | refine aw_condK ?_ | refine aw_skip ?_ | refine aw_ret ?_ | refine aw_exit ?_ | refine aw_label ?_ | refine aw_block ?_ | refine aw_scope ?_ | refine And.intro ?_ ?_)) <;> (try (simp (maxSteps := 1000000) (disch := first | exact dq | fail) only [go_sem])))
    | (with_reducible (first | refine wantK_split (fun h => ?_) (fun h => ?_) | refine condK_split (fun h => ?_) (fun h => ?_) | refine pickV_split (fun h => ?_) (fun h => ?_)) <;> (try (simp (maxSteps := 1000000) (disch := first | exact dq | fail) only [go_sem] at h)) <;> (try (simp (maxSteps := 1000000) (disch := first | exact dq | fail) only [go_sem, h])))))
    ((first | with_reducible apply left_callf | with_reducible apply leftD_callf | with_reducible apply leftF_callf); (· with_reducible rfl); (· (simp (maxSteps := 1000000) (disch := first | exact dq | fail) only [go_sem]) <;> rfl); (· exact hz2); try (simp (maxSteps := 1000000) (disch := first | exact dq | fail) only [go_sem]))
    (repeat' (first
    | ((first | with_reducible (first | refine aw_seq ?_ | refine aw_region (aops_run ?_)) | (with_reducible refine aw_regionD (fun _ => .p) mixed ?_ (dops_run ?_); (· kernel_rfl)) | (with_reducible refine aw_regionD (fun _ => .r) mixed ?_ (dops_run ?_); (· kernel_rfl)) | with_reducible (first | refine aw_condK ?_ | refine aw_skip ?_ | refine aw_ret ?_ | refine aw_exit ?_ | refine aw_label ?_ | refine aw_block ?_ | refine aw_scope ?_ | refine And.intro ?_ ?_)) <;> (try (simp (maxSteps := 1000000) (disch := first | exact dq | fail) only [go_sem])))
    | (with_reducible (first | refine wantK_split (fun h => ?_) (fun h => ?_) | refine condK_split (fun h => ?_) (fun h => ?_) | refine pickV_split (fun h => ?_) (fun h => ?_)) <;> (try (simp (maxSteps := 1000000) (disch := first | exact dq | fail) only [go_sem] at h)) <;> (try (simp (maxSteps := 1000000) (disch := first | exact dq | fail) only [go_sem, h])))))
  obtain ⟨n, rfl⟩ : ∃ n : Nat, n2 = n := ⟨n2.toNat, by unfold badL at hbad; omega⟩
  have hn5 : n ≤ 5000 := by unfold badL at hbad; omega
  have hL := Load_in n s R hbad (by omega)
  by_cases hok : (∀ r ∈ R, r.length = n) ∧ (symsOf R n).any (offK s) = false
  · rw [if_pos hok] at hL
    have hb : 1 ≤ s ∧ R.length = widN (s - 1) := by unfold badL at hbad; omega
    have hw := symsOf_ok hok.1
    have hsy : ∀ x ∈ symsOf R n, 0 ≤ x ∧ x < s := fun x hx => by
      have := List.any_eq_false.1 hok.2 x hx
      unfold offK at this
      rw [Bool.or_eq_true, decide_eq_true_eq, decide_eq_true_eq] at this
      omega
    have hsl := symsOf_len R n
    have hLs := WList_spec hw s (by omega) (by omega)
    rw [hsl] at hLs
    have hRow := RefRows_spec (symsOf R n) s (by omega) hb.1 (by omega) hsy
    rw [← hb.2, rows_back hw] at hRow
    have hMay := RefMay_spec (symsOf R n) s (by omega)
    rw [mayB_iff.2 ⟨hb.1, by omega, hsy⟩] at hMay
    clear hw hsy hok
    generalize symsOf R n = m at *
    clear hbad hz1 hz2
    unfold bitsL waveV at *
    rw [hs] at hL hLs hRow hMay
    (repeat' (first
    | ((first | with_reducible (first | refine aw_seq ?_ | refine aw_region (aops_run ?_)) | (with_reducible refine aw_regionD (fun _ => .p) mixed ?_ (dops_run ?_); (· kernel_rfl)) | (with_reducible refine aw_regionD (fun _ => .r) mixed ?_ (dops_run ?_); (· kernel_rfl)) | with_reducible (first | refine aw_condK ?_ | refine aw_skip ?_ | refine aw_ret ?_ | refine aw_exit ?_ | refine aw_label ?_ | refine aw_block ?_ | refine aw_scope ?_ | refine And.intro ?_ ?_)) <;> (try (simp (maxSteps := 1000000) (disch := first | exact dq | fail) only [go_sem])))
    | (with_reducible (first | refine wantK_split (fun h => ?_) (fun h => ?_) | refine condK_split (fun h => ?_) (fun h => ?_) | refine pickV_split (fun h => ?_) (fun h => ?_)) <;> (try (simp (maxSteps := 1000000) (disch := first | exact dq | fail) only [go_sem] at h)) <;> (try (simp (maxSteps := 1000000) (disch := first | exact dq | fail) only [go_sem, h])))))
    ((first | with_reducible apply left_callf | with_reducible apply leftD_callf | with_reducible apply leftF_callf); (· with_reducible rfl); (· (simp (maxSteps := 1000000) (disch := first | exact dq | fail) only [go_sem]) <;> rfl); (· exact hL); try (simp (maxSteps := 1000000) (disch := first | exact dq | fail) only [go_sem]))
    (repeat' (first
    | ((first | with_reducible (first | refine aw_seq ?_ | refine aw_region (aops_run ?_)) | (with_reducible refine aw_regionD (fun _ => .p) mixed ?_ (dops_run ?_); (· kernel_rfl)) | (with_reducible refine aw_regionD (fun _ => .r) mixed ?_ (dops_run ?_); (· kernel_rfl)) | with_reducible (first | refine aw_condK ?_ | refine aw_skip ?_ | refine aw_ret ?_ | refine aw_exit ?_ | refine aw_label ?_ | refine aw_block ?_ | refine aw_scope ?_ | refine And.intro ?_ ?_)) <;> (try (simp (maxSteps := 1000000) (disch := first | exact dq | fail) only [go_sem])))
    | (with_reducible (first | refine wantK_split (fun h => ?_) (fun h => ?_) | refine condK_split (fun h => ?_) (fun h => ?_) | refine pickV_split (fun h => ?_) (fun h => ?_)) <;> (try (simp (maxSteps := 1000000) (disch := first | exact dq | fail) only [go_sem] at h)) <;> (try (simp (maxSteps := 1000000) (disch := first | exact dq | fail) only [go_sem, h])))))
    ((first | with_reducible apply left_callf | with_reducible apply leftD_callf | with_reducible apply leftF_callf); (· with_reducible rfl); (· (simp (maxSteps := 1000000) (disch := first | exact dq | fail) only [go_sem]) <;> rfl); (· exact hLs); try (simp (maxSteps := 1000000) (disch := first | exact dq | fail) only [go_sem]))
    (repeat' (first
    | ((first | with_reducible (first | refine aw_seq ?_ | refine aw_region (aops_run ?_)) | (with_reducible refine aw_regionD (fun _ => .p) mixed ?_ (dops_run ?_); (· kernel_rfl)) | (with_reducible refine aw_regionD (fun _ => .r) mixed ?_ (dops_run ?_); (· kernel_rfl)) | with_reducible (first | refine aw_condK ?_ | refine aw_skip ?_ | refine aw_ret ?_ | refine aw_exit ?_ | refine aw_label ?_ | refine aw_block ?_ | refine aw_scope ?_ | refine And.intro ?_ ?_)) <;> (try (simp (maxSteps := 1000000) (disch := first | exact dq | fail) only [go_sem])))
    | (with_reducible (first | refine wantK_split (fun h => ?_) (fun h => ?_) | refine condK_split (fun h => ?_) (fun h => ?_) | refine pickV_split (fun h => ?_) (fun h => ?_)) <;> (try (simp (maxSteps := 1000000) (disch := first | exact dq | fail) only [go_sem] at h)) <;> (try (simp (maxSteps := 1000000) (disch := first | exact dq | fail) only [go_sem, h])))))
    ((first | with_reducible apply left_callf | with_reducible apply leftD_callf | with_reducible apply leftF_callf); (· with_reducible rfl); (· (simp (maxSteps := 1000000) (disch := first | exact dq | fail) only [go_sem]) <;> rfl); (· exact hMay); try (simp (maxSteps := 1000000) (disch := first | exact dq | fail) only [go_sem]))
    (repeat' (first
    | ((first | with_reducible (first | refine aw_seq ?_ | refine aw_region (aops_run ?_)) | (with_reducible refine aw_regionD (fun _ => .p) mixed ?_ (dops_run ?_); (· kernel_rfl)) | (with_reducible refine aw_regionD (fun _ => .r) mixed ?_ (dops_run ?_); (· kernel_rfl)) | with_reducible (first | refine aw_condK ?_ | refine aw_skip ?_ | refine aw_ret ?_ | refine aw_exit ?_ | refine aw_label ?_ | refine aw_block ?_ | refine aw_scope ?_ | refine And.intro ?_ ?_)) <;> (try (simp (maxSteps := 1000000) (disch := first | exact dq | fail) only [go_sem, hsl, eq_self, decide_true])))
    | (with_reducible (first | refine wantK_split (fun h => ?_) (fun h => ?_) | refine condK_split (fun h => ?_) (fun h => ?_) | refine pickV_split (fun h => ?_) (fun h => ?_)) <;> (try (simp (maxSteps := 1000000) (disch := first | exact dq | fail) only [go_sem] at h)) <;> (try (simp (maxSteps := 1000000) (disch := first | exact dq | fail) only [go_sem, h, hsl, eq_self, decide_true])))))
    all_goals (try omega)
    ((first | with_reducible apply left_callf | with_reducible apply leftD_callf | with_reducible apply leftF_callf); (· with_reducible rfl); (· (simp (maxSteps := 1000000) (disch := first | exact dq | fail) only [go_sem]) <;> rfl); (· exact hRow); try (simp (maxSteps := 1000000) (disch := first | exact dq | fail) only [go_sem]))
    (repeat' (first
    | ((first | with_reducible (first | refine aw_seq ?_ | refine aw_region (aops_run ?_)) | (with_reducible refine aw_regionD (fun _ => .p) mixed ?_ (dops_run ?_); (· kernel_rfl)) | (with_reducible refine aw_regionD (fun _ => .r) mixed ?_ (dops_run ?_); (· kernel_rfl)) | with_reducible (first | refine aw_condK ?_ | refine aw_skip ?_ | refine aw_ret ?_ | refine aw_exit ?_ | refine aw_label ?_ | refine aw_block ?_ | refine aw_scope ?_ | refine And.intro ?_ ?_)) <;> (try (simp (maxSteps := 1000000) (disch := first | exact dq | fail) only [go_sem, eq_self, decide_true])))
    | (with_reducible (first | refine wantK_split (fun h => ?_) (fun h => ?_) | refine condK_split (fun h => ?_) (fun h => ?_) | refine pickV_split (fun h => ?_) (fun h => ?_)) <;> (try (simp (maxSteps := 1000000) (disch := first | exact dq | fail) only [go_sem] at h)) <;> (try (simp (maxSteps := 1000000) (disch := first | exact dq | fail) only [go_sem, h, eq_self, decide_true])))))
    all_goals (try omega)
    refine aw_loop (α := Nat) (fun i => ⟨148, sl [(7, .iv (.bool true)), (9, .iv (.sl 1 (R.map blsV))), (18, .iv (.sl 1 (R.map blsV))), (19, .iv (.int .i64 i))], [], 0⟩)
      (fun i => i ≤ R.length) (fun i => R.length - i) 0 (wk_by [] ?_) (by omega) ?_
    · (simp (maxSteps := 1000000) (disch := first | exact dq | fail) only [go_sem])
      try rfl
    rintro i hi
    by_cases g : i < R.length
    · have k1 : (i : Int) < R.length := by omega
      have hg : R[i]? = some (R.getD i []) := by simp [List.getD, List.getElem?_eq_getElem g]
      have hS1 := RefSame_spec (R.getD i []) (R.getD i []) (by have := hR60 i; omega)
      rw [decide_eq_true rfl] at hS1
      (repeat' (first
    | ((first | with_reducible (first | refine aw_seq ?_ | refine aw_region (aops_run ?_)) | (with_reducible refine aw_regionD (fun _ => .p) mixed ?_ (dops_run ?_); (· kernel_rfl)) | (with_reducible refine aw_regionD (fun _ => .r) mixed ?_ (dops_run ?_); (· kernel_rfl)) | with_reducible (first | refine aw_condK ?_ | refine aw_skip ?_ | refine aw_ret ?_ | refine aw_exit ?_ | refine aw_label ?_ | refine aw_block ?_ | refine aw_scope ?_ | refine And.intro ?_ ?_)) <;> (try (simp (maxSteps := 1000000) (disch := first | exact dq | fail) only [go_sem, k1, hg, decide_true])))
    | (with_reducible (first | refine wantK_split (fun h => ?_) (fun h => ?_) | refine condK_split (fun h => ?_) (fun h => ?_) | refine pickV_split (fun h => ?_) (fun h => ?_)) <;> (try (simp (maxSteps := 1000000) (disch := first | exact dq | fail) only [go_sem] at h)) <;> (try (simp (maxSteps := 1000000) (disch := first | exact dq | fail) only [go_sem, h, k1, hg, decide_true])))))
      all_goals (try omega)
      ((first | with_reducible apply left_callf | with_reducible apply leftD_callf | with_reducible apply leftF_callf); (· with_reducible rfl); (· (simp (maxSteps := 1000000) (disch := first | exact dq | fail) only [go_sem]) <;> rfl); (· exact hS1); try (simp (maxSteps := 1000000) (disch := first | exact dq | fail) only [go_sem]))
      (repeat' (first
    | ((first | with_reducible (first | refine aw_seq ?_ | refine aw_region (aops_run ?_)) | (with_reducible refine aw_regionD (fun _ => .p) mixed ?_ (dops_run ?_); (· kernel_rfl)) | (with_reducible refine aw_regionD (fun _ => .r) mixed ?_ (dops_run ?_); (· kernel_rfl)) | with_reducible (first | refine aw_condK ?_ | refine aw_skip ?_ | refine aw_ret ?_ | refine aw_exit ?_ | refine aw_label ?_ | refine aw_block ?_ | refine aw_scope ?_ | refine And.intro ?_ ?_)) <;> (try (simp (maxSteps := 1000000) (disch := first | exact dq | fail) only [go_sem])))
    | (with_reducible (first | refine wantK_split (fun h => ?_) (fun h => ?_) | refine condK_split (fun h => ?_) (fun h => ?_) | refine pickV_split (fun h => ?_) (fun h => ?_)) <;> (try (simp (maxSteps := 1000000) (disch := first | exact dq | fail) only [go_sem] at h)) <;> (try (simp (maxSteps := 1000000) (disch := first | exact dq | fail) only [go_sem, h])))))
      refine ⟨i + 1, by omega, wk_by [] ?_, by omega⟩
      (simp (maxSteps := 1000000) (disch := first | exact dq | fail) only [go_sem])
    · obtain rfl : i = R.length := by omega
      have k1 : ¬ (R.length : Int) < R.length := by omega
      (repeat' (first
    | ((first | with_reducible (first | refine aw_seq ?_ | refine aw_region (aops_run ?_)) | (with_reducible refine aw_regionD (fun _ => .p) mixed ?_ (dops_run ?_); (· kernel_rfl)) | (with_reducible refine aw_regionD (fun _ => .r) mixed ?_ (dops_run ?_); (· kernel_rfl)) | with_reducible (first | refine aw_condK ?_ | refine aw_skip ?_ | refine aw_ret ?_ | refine aw_exit ?_ | refine aw_label ?_ | refine aw_block ?_ | refine aw_scope ?_ | refine And.intro ?_ ?_)) <;> (try (simp (maxSteps := 1000000) (disch := first | exact dq | fail) only [go_sem, k1, decide_false])))
    | (with_reducible (first | refine wantK_split (fun h => ?_) (fun h => ?_) | refine condK_split (fun h => ?_) (fun h => ?_) | refine pickV_split (fun h => ?_) (fun h => ?_)) <;> (try (simp (maxSteps := 1000000) (disch := first | exact dq | fail) only [go_sem] at h)) <;> (try (simp (maxSteps := 1000000) (disch := first | exact dq | fail) only [go_sem, h, k1, decide_false])))))
  · rw [if_neg hok] at hL
    clear hok hbad
    unfold bitsL waveV at *
    rw [hs] at hL
    (repeat' (first
    | ((first | with_reducible (first | refine aw_seq ?_ | refine aw_region (aops_run ?_)) | (with_reducible refine aw_regionD (fun _ => .p) mixed ?_ (dops_run ?_); (· kernel_rfl)) | (with_reducible refine aw_regionD (fun _ => .r) mixed ?_ (dops_run ?_); (· kernel_rfl)) | with_reducible (first | refine aw_condK ?_ | refine aw_skip ?_ | refine aw_ret ?_ | refine aw_exit ?_ | refine aw_label ?_ | refine aw_block ?_ | refine aw_scope ?_ | refine And.intro ?_ ?_)) <;> (try (simp (maxSteps := 1000000) (disch := first | exact dq | fail) only [go_sem])))
    | (with_reducible (first | refine wantK_split (fun h => ?_) (fun h => ?_) | refine condK_split (fun h => ?_) (fun h => ?_) | refine pickV_split (fun h => ?_) (fun h => ?_)) <;> (try (simp (maxSteps := 1000000) (disch := first | exact dq | fail) only [go_sem] at h)) <;> (try (simp (maxSteps := 1000000) (disch := first | exact dq | fail) only [go_sem, h])))))
    ((first | with_reducible apply left_callf | with_reducible apply leftD_callf | with_reducible apply leftF_callf); (· with_reducible rfl); (· (simp (maxSteps := 1000000) (disch := first | exact dq | fail) only [go_sem]) <;> rfl); (· exact hL); try (simp (maxSteps := 1000000) (disch := first | exact dq | fail) only [go_sem]))
    (repeat' (first
    | ((first | with_reducible (first | refine aw_seq ?_ | refine aw_region (aops_run ?_)) | (with_reducible refine aw_regionD (fun _ => .p) mixed ?_ (dops_run ?_); (· kernel_rfl)) | (with_reducible refine aw_regionD (fun _ => .r) mixed ?_ (dops_run ?_); (· kernel_rfl)) | with_reducible (first | refine aw_condK ?_ | refine aw_skip ?_ | refine aw_ret ?_ | refine aw_exit ?_ | refine aw_label ?_ | refine aw_block ?_ | refine aw_scope ?_ | refine And.intro ?_ ?_)) <;> (try (simp (maxSteps := 1000000) (disch := first | exact dq | fail) only [go_sem])))
    | (with_reducible (first | refine wantK_split (fun h => ?_) (fun h => ?_) | refine condK_split (fun h => ?_) (fun h => ?_) | refine pickV_split (fun h => ?_) (fun h => ?_)) <;> (try (simp (maxSteps := 1000000) (disch := first | exact dq | fail) only [go_sem] at h)) <;> (try (simp (maxSteps := 1000000) (disch := first | exact dq | fail) only [go_sem, h])))))
    ((first | with_reducible apply left_callf | with_reducible apply leftD_callf | with_reducible apply leftF_callf); (· with_reducible rfl); (· (simp (maxSteps := 1000000) (disch := first | exact dq | fail) only [go_sem]) <;> rfl); (· exact hz1); try (simp (maxSteps := 1000000) (disch := first | exact dq | fail) only [go_sem]))
    (repeat' (first
    | ((first | with_reducible (first | refine aw_seq ?_ | refine aw_region (aops_run ?_)) | (with_reducible refine aw_regionD (fun _ => .p) mixed ?_ (dops_run ?_); (· kernel_rfl)) | (with_reducible refine aw_regionD (fun _ => .r) mixed ?_ (dops_run ?_); (· kernel_rfl)) | with_reducible (first | refine aw_condK ?_ | refine aw_skip ?_ | refine aw_ret ?_ | refine aw_exit ?_ | refine aw_label ?_ | refine aw_block ?_ | refine aw_scope ?_ | refine And.intro ?_ ?_)) <;> (try (simp (maxSteps := 1000000) (disch := first | exact dq | fail) only [go_sem])))
    | (with_reducible (first | refine wantK_split (fun h => ?_) (fun h => ?_) | refine condK_split (fun h => ?_) (fun h => ?_) | refine pickV_split (fun h => ?_) (fun h => ?_)) <;> (try (simp (maxSteps := 1000000) (disch := first | exact dq | fail) only [go_sem] at h)) <;> (try (simp (maxSteps := 1000000) (disch := first | exact dq | fail) only [go_sem, h])))))
    ((first | with_reducible apply left_callf | with_reducible apply leftD_callf | with_reducible apply leftF_callf); (· with_reducible rfl); (· (simp (maxSteps := 1000000) (disch := first | exact dq | fail) only [go_sem]) <;> rfl); (· exact hz2); try (simp (maxSteps := 1000000) (disch := first | exact dq | fail) only [go_sem]))
    (repeat' (first
    | ((first | with_reducible (first | refine aw_seq ?_ | refine aw_region (aops_run ?_)) | (with_reducible refine aw_regionD (fun _ => .p) mixed ?_ (dops_run ?_); (· kernel_rfl)) | (with_reducible refine aw_regionD (fun _ => .r) mixed ?_ (dops_run ?_); (· kernel_rfl)) | with_reducible (first | refine aw_condK ?_ | refine aw_skip ?_ | refine aw_ret ?_ | refine aw_exit ?_ | refine aw_label ?_ | refine aw_block ?_ | refine aw_scope ?_ | refine And.intro ?_ ?_)) <;> (try (simp (maxSteps := 1000000) (disch := first | exact dq | fail) only [go_sem])))
    | (with_reducible (first | refine wantK_split (fun h => ?_) (fun h => ?_) | refine condK_split (fun h => ?_) (fun h => ?_) | refine pickV_split (fun h => ?_) (fun h => ?_)) <;> (try (simp (maxSteps := 1000000) (disch := first | exact dq | fail) only [go_sem] at h)) <;> (try (simp (maxSteps := 1000000) (disch := first | exact dq | fail) only [go_sem, h])))))
theorem WaveLoads_two (l : List (List Bool)) (q : List Int) (near : Bool) (hq : q.length = 2) : PCalls Try.prog 8 [.sl 1 (l.map blsV), .agg (q.map (IV.int .i64)), .bool near] (.bool true) := by
  match q, hq with
  | [x, y], _ => exact WaveLoads_spec l x y near
end Go.Proofs.Ytkfjldkememadaa.AM
