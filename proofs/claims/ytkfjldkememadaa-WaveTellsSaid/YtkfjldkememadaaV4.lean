
/- Chapter 4: Get, At, List, Rank, Count, Below. No condition but lengths that fit. -/
import Derived.Test.YtkfjldkememadaaV3
set_option linter.unusedVariables false
set_option linter.unusedSimpArgs false
set_option maxRecDepth 20000
namespace Go.Proofs.Ytkfjldkememadaa.AM
open Go Go.RowKit

theorem oneAt_bI {B : List Bool} {i : Nat} (h : i < B.length) : oneAt B i = bI (B.getD i false) := by
  unfold oneAt
  rw [if_pos (by omega), Int.toNat_natCast]
  cases B.getD i false <;> rfl
namespace WOk
variable {l : List Int} {W : Nat} {rows : List (List Bool)}
theorem at_ (h : WOk l W rows) {k : Nat} (hk : k < W) : rows[k]? = some (rowK (wK l W k) (bitN W (sy l) k) l.length) := by
  have := h.row k hk
  rw [List.getElem?_eq_getElem (by rw [h.len]; exact hk)]
  simp only [List.getD, List.getElem?_eq_getElem (show k < rows.length by rw [h.len]; exact hk), Option.getD_some] at this
  rw [this]; rfl
end WOk
theorem pow62 {W : Nat} (h : W ≤ 62) : 2 ^ W ≤ 4611686018427387904 := Nat.pow_le_pow_right (by decide) h
set_option maxHeartbeats 2000000 in
theorem Get_in {l : List Int} {W : Nat} {rows : List (List Bool)} (hw : WOk l W rows) (size : Int) (i : Nat) (hi : i < l.length) (hW : W ≤ 62) (hn : l.length ≤ 100000000) :
    PCalls Try.prog 18 [waveV l.length size rows, .int .i64 i] (.tup [.int .i64 (sy l i), .int .i64 0]) := by
  have hc1 : ¬ ((i : Int) < 0) := by omega
  have hc2 : ¬ ((i : Int) ≥ l.length) := by omega
  have hlen := hw.len
  have hat := fun k => @WOk.at_ _ _ _ hw k
  have hkW := hw.keyW hi
  have hlt := levK_lt (bitN W (sy l))
  have hp0 : posK (wK l W 0) l.length i = i := by
    show cL (wK l W 0) 0 l.length + cN (wK l W 0) 0 i = i
    rw [cL_zero, cN0, Nat.zero_add]
  have hz0 : wK l W 0 i = 0 := rfl
  have f0 := cL_zero (wK l W 0) l.length
  have f1 := cL0 l W l.length
  refine PCalls.of_aw Try.func18 rfl (by unfold Callable; kernel_rfl) (by kernel_rfl) (by simp [Try.ntmps18]) ?_; rw [Try.ntmps18, Try.results18]; (simp (maxSteps := 1000000) (disch := first | exact dq | fail) only [go_sem, waveV])
  (repeat' (first
    | ((first | with_reducible (first | refine aw_seq ?_ | refine aw_region (aops_run ?_)) | (with_reducible refine aw_regionD (fun _ => .p) mixed ?_ (dops_run ?_); (· kernel_rfl)) | (with_reducible refine aw_regionD (fun _ => .r) mixed ?_ (dops_run ?_); (· kernel_rfl)) | with_reducible (first | refine aw_condK ?_ | refine aw_skip ?_ | refine aw_ret ?_ | refine aw_exit ?_ | refine aw_label ?_ | refine aw_block ?_ | refine aw_scope ?_ | refine And.intro ?_ ?_)) <;> (try (simp (maxSteps := 1000000) (disch := first | exact dq | fail) only [go_sem, hc1, hc2, decide_false])))
    | (with_reducible (first | refine wantK_split (fun h => ?_) (fun h => ?_) | refine condK_split (fun h => ?_) (fun h => ?_) | refine pickV_split (fun h => ?_) (fun h => ?_)) <;> (try (simp (maxSteps := 1000000) (disch := first | exact dq | fail) only [go_sem] at h)) <;> (try (simp (maxSteps := 1000000) (disch := first | exact dq | fail) only [go_sem, h, hc1, hc2, decide_false])))))
  all_goals (try omega)
  refine aw_loop (α := Nat) (fun k => ⟨47, sl [(1, .iv (.int .i64 (posK (wK l W k) l.length i))), (6, .mp 0 0), (7, .iv (.int .i64 (wK l W k i))), (23, .iv (.sl 7 (rows.map rankV))), (24, .iv (.int .i64 W)), (25, .iv (.int .i64 k))],
      [.var 74 [.iv (.int .i64 (cL (wK l W k) (wK l W k i) l.length)), .iv (.int .i64 (cL (wK l W k) (wK l W k i + 1) l.length))]], 0⟩)
    (fun k => k ≤ W) (fun k => W - k) 0 (wk_by [1] ?_) (by omega) ?_
  · (simp (maxSteps := 1000000) (disch := first | exact dq | fail) only [go_sem, hp0, hz0, f0, f1, hlen])
  rintro k hk
  by_cases h : k < W
  · have hB := hat k h
    have hbl := rowK_len (wK l W k) (bitN W (sy l) k) l.length
    have hpl := posK_lt (wK l W k) hi
    have hO := ROne_spec (rowK (wK l W k) (bitN W (sy l) k) l.length) (posK (wK l W k) l.length i) (by omega)
    rw [oneAt_bI (by omega), rowK_at hi] at hO
    have hP := place_spec (wK l W k) (bitN W (sy l) k) l.length (wK l W k i) i (bitN W (sy l) k i) hn (by omega)
    have hD := down_spec (wK l W k) (bitN W (sy l) k) l.length (wK l W k i) (bitN W (sy l) k i) hn
    have hnx : 2 * wK l W k i + b01 (bitN W (sy l) k i) = wK l W (k + 1) i := rfl
    have hnk : nxtK (wK l W k) (bitN W (sy l) k) = wK l W (k + 1) := rfl
    rw [hnx, hnk] at hP hD
    have hpk : plc (wK l W k) l.length (wK l W k i) i = posK (wK l W k) l.length i := rfl
    have hpk1 : plc (wK l W (k + 1)) l.length (wK l W (k + 1) i) i = posK (wK l W (k + 1)) l.length i := rfl
    rw [hpk, hpk1] at hP
    unfold prt partV at hP hD
    have hc : (k : Int) < W := by omega
    have hbi : 2 * (wK l W k i : Int) + bI (bitN W (sy l) k i) = (wK l W (k + 1) i : Nat) := by rw [bI_nat, ← hnx]; omega
    have hb0 : 0 ≤ bI (bitN W (sy l) k i) ∧ bI (bitN W (sy l) k i) ≤ 1 := by rw [bI_nat]; cases bitN W (sy l) k i <;> simp [b01]
    have hkl := hlt k i
    have hp62 := pow62 (show k ≤ 62 by omega)
    change wK l W k i < _ at hkl
    generalize rowK (wK l W k) (bitN W (sy l) k) l.length = B at *
    generalize bI (bitN W (sy l) k i) = bt at *
    generalize posK (wK l W k) l.length i = x at *
    generalize posK (wK l W (k + 1)) l.length i = x' at *
    (repeat' (first
    | ((first | with_reducible (first | refine aw_seq ?_ | refine aw_region (aops_run ?_)) | (with_reducible refine aw_regionD (fun _ => .p) mixed ?_ (dops_run ?_); (· kernel_rfl)) | (with_reducible refine aw_regionD (fun _ => .r) mixed ?_ (dops_run ?_); (· kernel_rfl)) | with_reducible (first | refine aw_condK ?_ | refine aw_skip ?_ | refine aw_ret ?_ | refine aw_exit ?_ | refine aw_label ?_ | refine aw_block ?_ | refine aw_scope ?_ | refine And.intro ?_ ?_)) <;> (try (simp (maxSteps := 1000000) (disch := first | exact dq | fail) only [go_sem, hc, hB, decide_true])))
    | (with_reducible (first | refine wantK_split (fun h => ?_) (fun h => ?_) | refine condK_split (fun h => ?_) (fun h => ?_) | refine pickV_split (fun h => ?_) (fun h => ?_)) <;> (try (simp (maxSteps := 1000000) (disch := first | exact dq | fail) only [go_sem] at h)) <;> (try (simp (maxSteps := 1000000) (disch := first | exact dq | fail) only [go_sem, h, hc, hB, decide_true])))))
    all_goals (try omega)
    ((first | with_reducible apply left_callf | with_reducible apply leftD_callf | with_reducible apply leftF_callf); (· with_reducible rfl); (· (simp (maxSteps := 1000000) (disch := first | exact dq | fail) only [go_sem]) <;> rfl); (· exact hO); try (simp (maxSteps := 1000000) (disch := first | exact dq | fail) only [go_sem]))
    (repeat' (first
    | ((first | with_reducible (first | refine aw_seq ?_ | refine aw_region (aops_run ?_)) | (with_reducible refine aw_regionD (fun _ => .p) mixed ?_ (dops_run ?_); (· kernel_rfl)) | (with_reducible refine aw_regionD (fun _ => .r) mixed ?_ (dops_run ?_); (· kernel_rfl)) | with_reducible (first | refine aw_condK ?_ | refine aw_skip ?_ | refine aw_ret ?_ | refine aw_exit ?_ | refine aw_label ?_ | refine aw_block ?_ | refine aw_scope ?_ | refine And.intro ?_ ?_)) <;> (try (simp (maxSteps := 1000000) (disch := first | exact dq | fail) only [go_sem, hbi])))
    | (with_reducible (first | refine wantK_split (fun h => ?_) (fun h => ?_) | refine condK_split (fun h => ?_) (fun h => ?_) | refine pickV_split (fun h => ?_) (fun h => ?_)) <;> (try (simp (maxSteps := 1000000) (disch := first | exact dq | fail) only [go_sem] at h)) <;> (try (simp (maxSteps := 1000000) (disch := first | exact dq | fail) only [go_sem, h, hbi])))))
    all_goals (try omega)
    ((first | with_reducible apply left_callf | with_reducible apply leftD_callf | with_reducible apply leftF_callf); (· with_reducible rfl); (· (simp (maxSteps := 1000000) (disch := first | exact dq | fail) only [go_sem]) <;> rfl); (· exact hP); try (simp (maxSteps := 1000000) (disch := first | exact dq | fail) only [go_sem]))
    (repeat' (first
    | ((first | with_reducible (first | refine aw_seq ?_ | refine aw_region (aops_run ?_)) | (with_reducible refine aw_regionD (fun _ => .p) mixed ?_ (dops_run ?_); (· kernel_rfl)) | (with_reducible refine aw_regionD (fun _ => .r) mixed ?_ (dops_run ?_); (· kernel_rfl)) | with_reducible (first | refine aw_condK ?_ | refine aw_skip ?_ | refine aw_ret ?_ | refine aw_exit ?_ | refine aw_label ?_ | refine aw_block ?_ | refine aw_scope ?_ | refine And.intro ?_ ?_)) <;> (try (simp (maxSteps := 1000000) (disch := first | exact dq | fail) only [go_sem])))
    | (with_reducible (first | refine wantK_split (fun h => ?_) (fun h => ?_) | refine condK_split (fun h => ?_) (fun h => ?_) | refine pickV_split (fun h => ?_) (fun h => ?_)) <;> (try (simp (maxSteps := 1000000) (disch := first | exact dq | fail) only [go_sem] at h)) <;> (try (simp (maxSteps := 1000000) (disch := first | exact dq | fail) only [go_sem, h])))))
    ((first | with_reducible apply left_callf | with_reducible apply leftD_callf | with_reducible apply leftF_callf); (· with_reducible rfl); (· (simp (maxSteps := 1000000) (disch := first | exact dq | fail) only [go_sem]) <;> rfl); (· exact hD); try (simp (maxSteps := 1000000) (disch := first | exact dq | fail) only [go_sem]))
    (repeat' (first
    | ((first | with_reducible (first | refine aw_seq ?_ | refine aw_region (aops_run ?_)) | (with_reducible refine aw_regionD (fun _ => .p) mixed ?_ (dops_run ?_); (· kernel_rfl)) | (with_reducible refine aw_regionD (fun _ => .r) mixed ?_ (dops_run ?_); (· kernel_rfl)) | with_reducible (first | refine aw_condK ?_ | refine aw_skip ?_ | refine aw_ret ?_ | refine aw_exit ?_ | refine aw_label ?_ | refine aw_block ?_ | refine aw_scope ?_ | refine And.intro ?_ ?_)) <;> (try (simp (maxSteps := 1000000) (disch := first | exact dq | fail) only [go_sem])))
    | (with_reducible (first | refine wantK_split (fun h => ?_) (fun h => ?_) | refine condK_split (fun h => ?_) (fun h => ?_) | refine pickV_split (fun h => ?_) (fun h => ?_)) <;> (try (simp (maxSteps := 1000000) (disch := first | exact dq | fail) only [go_sem] at h)) <;> (try (simp (maxSteps := 1000000) (disch := first | exact dq | fail) only [go_sem, h])))))
    all_goals (try omega)
    refine ⟨k + 1, by omega, wk_by [0] ?_, by omega⟩
    (simp (maxSteps := 1000000) (disch := first | exact dq | fail) only [go_sem])
    rw [← hpk1]; rfl
  · obtain rfl : k = W := by omega
    have hc : ¬ ((k : Int) < k) := by omega
    rw [hkW]
    (repeat' (first
    | ((first | with_reducible (first | refine aw_seq ?_ | refine aw_region (aops_run ?_)) | (with_reducible refine aw_regionD (fun _ => .p) mixed ?_ (dops_run ?_); (· kernel_rfl)) | (with_reducible refine aw_regionD (fun _ => .r) mixed ?_ (dops_run ?_); (· kernel_rfl)) | with_reducible (first | refine aw_condK ?_ | refine aw_skip ?_ | refine aw_ret ?_ | refine aw_exit ?_ | refine aw_label ?_ | refine aw_block ?_ | refine aw_scope ?_ | refine And.intro ?_ ?_)) <;> (try (simp (maxSteps := 1000000) (disch := first | exact dq | fail) only [go_sem, hc, decide_false])))
    | (with_reducible (first | refine wantK_split (fun h => ?_) (fun h => ?_) | refine condK_split (fun h => ?_) (fun h => ?_) | refine pickV_split (fun h => ?_) (fun h => ?_)) <;> (try (simp (maxSteps := 1000000) (disch := first | exact dq | fail) only [go_sem] at h)) <;> (try (simp (maxSteps := 1000000) (disch := first | exact dq | fail) only [go_sem, h, hc, decide_false])))))
    all_goals (try omega)
theorem Get_out (n : Nat) (size : Int) (rows : List (List Bool)) (i : Int) (hi : i < 0 ∨ n ≤ i) : PCalls Try.prog 18 [waveV n size rows, .int .i64 i] (.tup [.int .i64 0, .int .i64 13]) := by
  by_cases h : i < 0
  · refine PCalls.of_aw Try.func18 rfl (by unfold Callable; kernel_rfl) (by kernel_rfl) (by simp [Try.ntmps18]) ?_; rw [Try.ntmps18, Try.results18]; (simp (disch := first | exact dq | fail) only [go_sem, waveV])
    (repeat' (first
    | ((first | with_reducible (first | refine aw_seq ?_ | refine aw_region (aops_run ?_)) | (with_reducible refine aw_regionD (fun _ => .p) mixed ?_ (dops_run ?_); (· kernel_rfl)) | (with_reducible refine aw_regionD (fun _ => .r) mixed ?_ (dops_run ?_); (· kernel_rfl)) | with_reducible (first | refine aw_condK ?_ | refine aw_skip ?_ | refine aw_ret ?_ | refine aw_exit ?_ | refine aw_label ?_ | refine aw_block ?_ | refine aw_scope ?_ | refine And.intro ?_ ?_)) <;> (try (simp (disch := first | exact dq | fail) only [go_sem, h, decide_true])))
    | (with_reducible (first | refine wantK_split (fun h => ?_) (fun h => ?_) | refine condK_split (fun h => ?_) (fun h => ?_) | refine pickV_split (fun h => ?_) (fun h => ?_)) <;> (try (simp (disch := first | exact dq | fail) only [go_sem] at h)) <;> (try (simp (disch := first | exact dq | fail) only [go_sem, h, h, decide_true])))))
    all_goals (try omega)
  · have h2 : i ≥ n := by omega
    refine PCalls.of_aw Try.func18 rfl (by unfold Callable; kernel_rfl) (by kernel_rfl) (by simp [Try.ntmps18]) ?_; rw [Try.ntmps18, Try.results18]; (simp (disch := first | exact dq | fail) only [go_sem, waveV])
    (repeat' (first
    | ((first | with_reducible (first | refine aw_seq ?_ | refine aw_region (aops_run ?_)) | (with_reducible refine aw_regionD (fun _ => .p) mixed ?_ (dops_run ?_); (· kernel_rfl)) | (with_reducible refine aw_regionD (fun _ => .r) mixed ?_ (dops_run ?_); (· kernel_rfl)) | with_reducible (first | refine aw_condK ?_ | refine aw_skip ?_ | refine aw_ret ?_ | refine aw_exit ?_ | refine aw_label ?_ | refine aw_block ?_ | refine aw_scope ?_ | refine And.intro ?_ ?_)) <;> (try (simp (disch := first | exact dq | fail) only [go_sem, h, h2, decide_true, decide_false])))
    | (with_reducible (first | refine wantK_split (fun h => ?_) (fun h => ?_) | refine condK_split (fun h => ?_) (fun h => ?_) | refine pickV_split (fun h => ?_) (fun h => ?_)) <;> (try (simp (disch := first | exact dq | fail) only [go_sem] at h)) <;> (try (simp (disch := first | exact dq | fail) only [go_sem, h, h, h2, decide_true, decide_false])))))
    all_goals (try omega)
theorem At_in {l : List Int} {W : Nat} {rows : List (List Bool)} (hw : WOk l W rows) (size : Int) (i : Nat) (hi : i < l.length) (hW : W ≤ 62) (hn : l.length ≤ 100000000) :
    PCalls Try.prog 22 [waveV l.length size rows, .int .i64 i] (.int .i64 (l.getD i 0)) := by
  have h := Get_in hw size i hi hW hn
  have e : ((sy l i : Nat) : Int) = l.getD i 0 := by
    have := (hw.sym _ (getD_mem hi)).1
    unfold sy; omega
  rw [e] at h
  unfold waveV at h
  refine PCalls.of_aw Try.func22 rfl (by unfold Callable; kernel_rfl) (by kernel_rfl) (by simp [Try.ntmps22]) ?_; rw [Try.ntmps22, Try.results22]; (simp (disch := first | exact dq | fail) only [go_sem, waveV])
  (repeat' (first
    | ((first | with_reducible (first | refine aw_seq ?_ | refine aw_region (aops_run ?_)) | (with_reducible refine aw_regionD (fun _ => .p) mixed ?_ (dops_run ?_); (· kernel_rfl)) | (with_reducible refine aw_regionD (fun _ => .r) mixed ?_ (dops_run ?_); (· kernel_rfl)) | with_reducible (first | refine aw_condK ?_ | refine aw_skip ?_ | refine aw_ret ?_ | refine aw_exit ?_ | refine aw_label ?_ | refine aw_block ?_ | refine aw_scope ?_ | refine And.intro ?_ ?_)) <;> (try (simp (disch := first | exact dq | fail) only [go_sem])))
    | (with_reducible (first | refine wantK_split (fun h => ?_) (fun h => ?_) | refine condK_split (fun h => ?_) (fun h => ?_) | refine pickV_split (fun h => ?_) (fun h => ?_)) <;> (try (simp (disch := first | exact dq | fail) only [go_sem] at h)) <;> (try (simp (disch := first | exact dq | fail) only [go_sem, h])))))
  ((first | with_reducible apply left_callf | with_reducible apply leftD_callf | with_reducible apply leftF_callf); (· with_reducible rfl); (· (simp (disch := first | exact dq | fail) only [go_sem]) <;> rfl); (· exact h); try (simp (disch := first | exact dq | fail) only [go_sem]))
  (repeat' (first
    | ((first | with_reducible (first | refine aw_seq ?_ | refine aw_region (aops_run ?_)) | (with_reducible refine aw_regionD (fun _ => .p) mixed ?_ (dops_run ?_); (· kernel_rfl)) | (with_reducible refine aw_regionD (fun _ => .r) mixed ?_ (dops_run ?_); (· kernel_rfl)) | with_reducible (first | refine aw_condK ?_ | refine aw_skip ?_ | refine aw_ret ?_ | refine aw_exit ?_ | refine aw_label ?_ | refine aw_block ?_ | refine aw_scope ?_ | refine And.intro ?_ ?_)) <;> (try (simp (disch := first | exact dq | fail) only [go_sem])))
    | (with_reducible (first | refine wantK_split (fun h => ?_) (fun h => ?_) | refine condK_split (fun h => ?_) (fun h => ?_) | refine pickV_split (fun h => ?_) (fun h => ?_)) <;> (try (simp (disch := first | exact dq | fail) only [go_sem] at h)) <;> (try (simp (disch := first | exact dq | fail) only [go_sem, h])))))
theorem At_out (n : Nat) (size : Int) (rows : List (List Bool)) (i : Int) (hi : i < 0 ∨ n ≤ i) : PCalls Try.prog 22 [waveV n size rows, .int .i64 i] (.int .i64 (-1)) := by
  have h := Get_out n size rows i hi
  unfold waveV at h
  refine PCalls.of_aw Try.func22 rfl (by unfold Callable; kernel_rfl) (by kernel_rfl) (by simp [Try.ntmps22]) ?_; rw [Try.ntmps22, Try.results22]; (simp (disch := first | exact dq | fail) only [go_sem, waveV])
  (repeat' (first
    | ((first | with_reducible (first | refine aw_seq ?_ | refine aw_region (aops_run ?_)) | (with_reducible refine aw_regionD (fun _ => .p) mixed ?_ (dops_run ?_); (· kernel_rfl)) | (with_reducible refine aw_regionD (fun _ => .r) mixed ?_ (dops_run ?_); (· kernel_rfl)) | with_reducible (first | refine aw_condK ?_ | refine aw_skip ?_ | refine aw_ret ?_ | refine aw_exit ?_ | refine aw_label ?_ | refine aw_block ?_ | refine aw_scope ?_ | refine And.intro ?_ ?_)) <;> (try (simp (disch := first | exact dq | fail) only [go_sem])))
    | (with_reducible (first | refine wantK_split (fun h => ?_) (fun h => ?_) | refine condK_split (fun h => ?_) (fun h => ?_) | refine pickV_split (fun h => ?_) (fun h => ?_)) <;> (try (simp (disch := first | exact dq | fail) only [go_sem] at h)) <;> (try (simp (disch := first | exact dq | fail) only [go_sem, h])))))
  ((first | with_reducible apply left_callf | with_reducible apply leftD_callf | with_reducible apply leftF_callf); (· with_reducible rfl); (· (simp (disch := first | exact dq | fail) only [go_sem]) <;> rfl); (· exact h); try (simp (disch := first | exact dq | fail) only [go_sem]))
  (repeat' (first
    | ((first | with_reducible (first | refine aw_seq ?_ | refine aw_region (aops_run ?_)) | (with_reducible refine aw_regionD (fun _ => .p) mixed ?_ (dops_run ?_); (· kernel_rfl)) | (with_reducible refine aw_regionD (fun _ => .r) mixed ?_ (dops_run ?_); (· kernel_rfl)) | with_reducible (first | refine aw_condK ?_ | refine aw_skip ?_ | refine aw_ret ?_ | refine aw_exit ?_ | refine aw_label ?_ | refine aw_block ?_ | refine aw_scope ?_ | refine And.intro ?_ ?_)) <;> (try (simp (disch := first | exact dq | fail) only [go_sem])))
    | (with_reducible (first | refine wantK_split (fun h => ?_) (fun h => ?_) | refine condK_split (fun h => ?_) (fun h => ?_) | refine pickV_split (fun h => ?_) (fun h => ?_)) <;> (try (simp (disch := first | exact dq | fail) only [go_sem] at h)) <;> (try (simp (disch := first | exact dq | fail) only [go_sem, h])))))
theorem cN_sub {K K' : Nat → Nat} {v c : Nat} : ∀ {n : Nat}, (∀ i, i < n → K i = c → K' i = v) → cN K c n ≤ cN K' v n
  | 0, _ => Nat.le_refl _
  | n + 1, h => by
    have ih := cN_sub (K := K) (K' := K') (v := v) (c := c) (n := n) (fun i hi => h i (by omega))
    have hn := h n (by omega)
    rw [cN, cN]
    by_cases e : K n = c
    · rw [if_pos e, if_pos (hn e)]; omega
    · rw [if_neg e]; split <;> omega
def clI (n : Nat) (i : Int) : Nat := (min (max i 0) n).toNat
theorem clI_le (n : Nat) (i : Int) : clI n i ≤ n := by unfold clI; omega
set_option maxHeartbeats 2000000 in
theorem Rank_in {l : List Int} {W : Nat} {rows : List (List Bool)} (hw : WOk l W rows) (size : Int) (c : Nat) (hc : (c : Int) < size) (hcW : c < 2 ^ W) (i : Int) (hW : W ≤ 62) (hn : l.length ≤ 100000000) :
    PCalls Try.prog 13 [waveV l.length size rows, .int .i64 c, .int .i64 i] (.int .i64 (cN (sy l) c (clI l.length i) : Nat)) := by
  obtain ⟨i0, hi0⟩ : ∃ i0, i0 = clI l.length i := ⟨_, rfl⟩
  have hi0n : i0 ≤ l.length := by rw [hi0]; exact clI_le _ _
  have ei : min (max i 0) (l.length : Int) = (i0 : Int) := by rw [hi0]; unfold clI; omega
  rw [← hi0]
  have hlen := hw.len
  have hat := fun k => @WOk.at_ _ _ _ hw k
  have hp62 := pow62 hW
  have hI := is_spec l.length size rows c
  rw [decide_eq_true (show (0 : Int) ≤ c by omega), decide_eq_true hc] at hI
  have hbit := fun k hk => bit_spec l.length size rows c k hk (by omega) (by omega)
  have hv0 : cV W c 0 = 0 := cV_zero hcW
  have f0 := cL_zero (wK l W 0) l.length
  have f1 := cL0 l W l.length
  have hp0 : plc (wK l W 0) l.length 0 i0 = i0 := by unfold plc; rw [f0, cN0, Nat.zero_add]
  unfold waveV at hI hbit
  refine PCalls.of_aw Try.func13 rfl (by unfold Callable; kernel_rfl) (by kernel_rfl) (by simp [Try.ntmps13]) ?_; rw [Try.ntmps13, Try.results13]; (simp (maxSteps := 1000000) (disch := first | exact dq | fail) only [go_sem, waveV])
  (repeat' (first
    | ((first | with_reducible (first | refine aw_seq ?_ | refine aw_region (aops_run ?_)) | (with_reducible refine aw_regionD (fun _ => .p) mixed ?_ (dops_run ?_); (· kernel_rfl)) | (with_reducible refine aw_regionD (fun _ => .r) mixed ?_ (dops_run ?_); (· kernel_rfl)) | with_reducible (first | refine aw_condK ?_ | refine aw_skip ?_ | refine aw_ret ?_ | refine aw_exit ?_ | refine aw_label ?_ | refine aw_block ?_ | refine aw_scope ?_ | refine And.intro ?_ ?_)) <;> (try (simp (maxSteps := 1000000) (disch := first | exact dq | fail) only [go_sem])))
    | (with_reducible (first | refine wantK_split (fun h => ?_) (fun h => ?_) | refine condK_split (fun h => ?_) (fun h => ?_) | refine pickV_split (fun h => ?_) (fun h => ?_)) <;> (try (simp (maxSteps := 1000000) (disch := first | exact dq | fail) only [go_sem] at h)) <;> (try (simp (maxSteps := 1000000) (disch := first | exact dq | fail) only [go_sem, h])))))
  ((first | with_reducible apply left_callf | with_reducible apply leftD_callf | with_reducible apply leftF_callf); (· with_reducible rfl); (· (simp (maxSteps := 1000000) (disch := first | exact dq | fail) only [go_sem]) <;> rfl); (· exact hI); try (simp (maxSteps := 1000000) (disch := first | exact dq | fail) only [go_sem]))
  (repeat' (first
    | ((first | with_reducible (first | refine aw_seq ?_ | refine aw_region (aops_run ?_)) | (with_reducible refine aw_regionD (fun _ => .p) mixed ?_ (dops_run ?_); (· kernel_rfl)) | (with_reducible refine aw_regionD (fun _ => .r) mixed ?_ (dops_run ?_); (· kernel_rfl)) | with_reducible (first | refine aw_condK ?_ | refine aw_skip ?_ | refine aw_ret ?_ | refine aw_exit ?_ | refine aw_label ?_ | refine aw_block ?_ | refine aw_scope ?_ | refine And.intro ?_ ?_)) <;> (try (simp (maxSteps := 1000000) (disch := first | exact dq | fail) only [go_sem, ei])))
    | (with_reducible (first | refine wantK_split (fun h => ?_) (fun h => ?_) | refine condK_split (fun h => ?_) (fun h => ?_) | refine pickV_split (fun h => ?_) (fun h => ?_)) <;> (try (simp (maxSteps := 1000000) (disch := first | exact dq | fail) only [go_sem] at h)) <;> (try (simp (maxSteps := 1000000) (disch := first | exact dq | fail) only [go_sem, h, ei])))))
  all_goals (try omega)
  refine aw_postE (β := Nat) (fun k => ⟨60, sl [(2, .iv (.int .i64 (plc (wK l W k) l.length (cV W c k) i0))), (7, .mp 0 0)], [.var 74 [.iv (.int .i64 (cL (wK l W k) (cV W c k) l.length)), .iv (.int .i64 (cL (wK l W k) (cV W c k + 1) l.length))]], 0⟩)
    (fun k => k ≤ W ∧ (k = W ∨ cL (wK l W k) (cV W c k) l.length = cL (wK l W k) (cV W c k + 1) l.length)) ?_ ?_
  · refine aw_loop (α := Nat) (fun k => ⟨60, sl [(1, .iv (.int .i64 c)), (2, .iv (.int .i64 (plc (wK l W k) l.length (cV W c k) i0))), (3, .mp 0 0), (7, .mp 1 0), (24, .iv (.sl 7 (rows.map rankV))), (25, .iv (.int .i64 W)), (26, .iv (.int .i64 k))],
        [.var 29 [.iv (.int .i64 l.length), .iv (.int .i64 size), .iv (.sl 7 (rows.map rankV))], .var 74 [.iv (.int .i64 (cL (wK l W k) (cV W c k) l.length)), .iv (.int .i64 (cL (wK l W k) (cV W c k + 1) l.length))]], 0⟩)
      (fun k => k ≤ W) (fun k => W - k) 0 (wk_by [0, 1] ?_) (by omega) ?_
    · (simp (maxSteps := 1000000) (disch := first | exact dq | fail) only [go_sem, hp0, hv0, f0, f1, hlen])
    rintro k hk
    by_cases h : k < W
    · have hB := hat k h
      have hcond : (k : Int) < W := by omega
      by_cases he : cL (wK l W k) (cV W c k) l.length = cL (wK l W k) (cV W c k + 1) l.length
      · have hcc : ((cL (wK l W k) (cV W c k) l.length : Nat) : Int) = (cL (wK l W k) (cV W c k + 1) l.length : Nat) := by omega
        (repeat' (first
    | ((first | with_reducible (first | refine aw_seq ?_ | refine aw_region (aops_run ?_)) | (with_reducible refine aw_regionD (fun _ => .p) mixed ?_ (dops_run ?_); (· kernel_rfl)) | (with_reducible refine aw_regionD (fun _ => .r) mixed ?_ (dops_run ?_); (· kernel_rfl)) | with_reducible (first | refine aw_condK ?_ | refine aw_skip ?_ | refine aw_ret ?_ | refine aw_exit ?_ | refine aw_label ?_ | refine aw_block ?_ | refine aw_scope ?_ | refine And.intro ?_ ?_)) <;> (try (simp (maxSteps := 1000000) (disch := first | exact dq | fail) only [go_sem, hcond, hB, hcc, eq_self, decide_true])))
    | (with_reducible (first | refine wantK_split (fun h => ?_) (fun h => ?_) | refine condK_split (fun h => ?_) (fun h => ?_) | refine pickV_split (fun h => ?_) (fun h => ?_)) <;> (try (simp (maxSteps := 1000000) (disch := first | exact dq | fail) only [go_sem] at h)) <;> (try (simp (maxSteps := 1000000) (disch := first | exact dq | fail) only [go_sem, h, hcond, hB, hcc, eq_self, decide_true])))))
        all_goals (try omega)
        refine ⟨k, ⟨hk, .inr he⟩, wk_by [1] ?_⟩
        (simp (maxSteps := 1000000) (disch := first | exact dq | fail) only [go_sem, hcc])
      · have hcc : ¬ (((cL (wK l W k) (cV W c k) l.length : Nat) : Int) = (cL (wK l W k) (cV W c k + 1) l.length : Nat)) := by omega
        have hb := hbit k (by omega)
        obtain ⟨β, hβ⟩ : ∃ β : Bool, c / 2 ^ (W - 1 - k) % 2 = b01 β := ⟨decide (c / 2 ^ (W - 1 - k) % 2 = 1), by
          by_cases e : c / 2 ^ (W - 1 - k) % 2 = 1
          · rw [decide_eq_true e, e]; rfl
          · rw [decide_eq_false e]; show _ = 0; omega⟩
        have hvs := cV_succ (c := c) h
        rw [hlen, hβ, ← bI_nat] at hb
        rw [hβ] at hvs
        have hP := place_spec (wK l W k) (bitN W (sy l) k) l.length (cV W c k) i0 β hn hi0n
        have hD := down_spec (wK l W k) (bitN W (sy l) k) l.length (cV W c k) β hn
        have hnk : nxtK (wK l W k) (bitN W (sy l) k) = wK l W (k + 1) := rfl
        rw [← hvs, hnk] at hP hD
        unfold prt partV at hP hD
        generalize rowK (wK l W k) (bitN W (sy l) k) l.length = B at *
        generalize bI β = bt at *
        generalize plc (wK l W k) l.length (cV W c k) i0 = x at *
        obtain ⟨x', hx'⟩ : ∃ x', x' = plc (wK l W (k + 1)) l.length (cV W c (k + 1)) i0 := ⟨_, rfl⟩
        rw [← hx'] at hP
        (repeat' (first
    | ((first | with_reducible (first | refine aw_seq ?_ | refine aw_region (aops_run ?_)) | (with_reducible refine aw_regionD (fun _ => .p) mixed ?_ (dops_run ?_); (· kernel_rfl)) | (with_reducible refine aw_regionD (fun _ => .r) mixed ?_ (dops_run ?_); (· kernel_rfl)) | with_reducible (first | refine aw_condK ?_ | refine aw_skip ?_ | refine aw_ret ?_ | refine aw_exit ?_ | refine aw_label ?_ | refine aw_block ?_ | refine aw_scope ?_ | refine And.intro ?_ ?_)) <;> (try (simp (maxSteps := 1000000) (disch := first | exact dq | fail) only [go_sem, hcond, hB, hcc, decide_true, decide_false])))
    | (with_reducible (first | refine wantK_split (fun h => ?_) (fun h => ?_) | refine condK_split (fun h => ?_) (fun h => ?_) | refine pickV_split (fun h => ?_) (fun h => ?_)) <;> (try (simp (maxSteps := 1000000) (disch := first | exact dq | fail) only [go_sem] at h)) <;> (try (simp (maxSteps := 1000000) (disch := first | exact dq | fail) only [go_sem, h, hcond, hB, hcc, decide_true, decide_false])))))
        all_goals (try omega)
        ((first | with_reducible apply left_callf | with_reducible apply leftD_callf | with_reducible apply leftF_callf); (· with_reducible rfl); (· (simp (maxSteps := 1000000) (disch := first | exact dq | fail) only [go_sem]) <;> rfl); (· exact hb); try (simp (maxSteps := 1000000) (disch := first | exact dq | fail) only [go_sem]))
        (repeat' (first
    | ((first | with_reducible (first | refine aw_seq ?_ | refine aw_region (aops_run ?_)) | (with_reducible refine aw_regionD (fun _ => .p) mixed ?_ (dops_run ?_); (· kernel_rfl)) | (with_reducible refine aw_regionD (fun _ => .r) mixed ?_ (dops_run ?_); (· kernel_rfl)) | with_reducible (first | refine aw_condK ?_ | refine aw_skip ?_ | refine aw_ret ?_ | refine aw_exit ?_ | refine aw_label ?_ | refine aw_block ?_ | refine aw_scope ?_ | refine And.intro ?_ ?_)) <;> (try (simp (maxSteps := 1000000) (disch := first | exact dq | fail) only [go_sem])))
    | (with_reducible (first | refine wantK_split (fun h => ?_) (fun h => ?_) | refine condK_split (fun h => ?_) (fun h => ?_) | refine pickV_split (fun h => ?_) (fun h => ?_)) <;> (try (simp (maxSteps := 1000000) (disch := first | exact dq | fail) only [go_sem] at h)) <;> (try (simp (maxSteps := 1000000) (disch := first | exact dq | fail) only [go_sem, h])))))
        all_goals (try omega)
        ((first | with_reducible apply left_callf | with_reducible apply leftD_callf | with_reducible apply leftF_callf); (· with_reducible rfl); (· (simp (maxSteps := 1000000) (disch := first | exact dq | fail) only [go_sem]) <;> rfl); (· exact hP); try (simp (maxSteps := 1000000) (disch := first | exact dq | fail) only [go_sem]))
        (repeat' (first
    | ((first | with_reducible (first | refine aw_seq ?_ | refine aw_region (aops_run ?_)) | (with_reducible refine aw_regionD (fun _ => .p) mixed ?_ (dops_run ?_); (· kernel_rfl)) | (with_reducible refine aw_regionD (fun _ => .r) mixed ?_ (dops_run ?_); (· kernel_rfl)) | with_reducible (first | refine aw_condK ?_ | refine aw_skip ?_ | refine aw_ret ?_ | refine aw_exit ?_ | refine aw_label ?_ | refine aw_block ?_ | refine aw_scope ?_ | refine And.intro ?_ ?_)) <;> (try (simp (maxSteps := 1000000) (disch := first | exact dq | fail) only [go_sem])))
    | (with_reducible (first | refine wantK_split (fun h => ?_) (fun h => ?_) | refine condK_split (fun h => ?_) (fun h => ?_) | refine pickV_split (fun h => ?_) (fun h => ?_)) <;> (try (simp (maxSteps := 1000000) (disch := first | exact dq | fail) only [go_sem] at h)) <;> (try (simp (maxSteps := 1000000) (disch := first | exact dq | fail) only [go_sem, h])))))
        ((first | with_reducible apply left_callf | with_reducible apply leftD_callf | with_reducible apply leftF_callf); (· with_reducible rfl); (· (simp (maxSteps := 1000000) (disch := first | exact dq | fail) only [go_sem]) <;> rfl); (· exact hD); try (simp (maxSteps := 1000000) (disch := first | exact dq | fail) only [go_sem]))
        (repeat' (first
    | ((first | with_reducible (first | refine aw_seq ?_ | refine aw_region (aops_run ?_)) | (with_reducible refine aw_regionD (fun _ => .p) mixed ?_ (dops_run ?_); (· kernel_rfl)) | (with_reducible refine aw_regionD (fun _ => .r) mixed ?_ (dops_run ?_); (· kernel_rfl)) | with_reducible (first | refine aw_condK ?_ | refine aw_skip ?_ | refine aw_ret ?_ | refine aw_exit ?_ | refine aw_label ?_ | refine aw_block ?_ | refine aw_scope ?_ | refine And.intro ?_ ?_)) <;> (try (simp (maxSteps := 1000000) (disch := first | exact dq | fail) only [go_sem])))
    | (with_reducible (first | refine wantK_split (fun h => ?_) (fun h => ?_) | refine condK_split (fun h => ?_) (fun h => ?_) | refine pickV_split (fun h => ?_) (fun h => ?_)) <;> (try (simp (maxSteps := 1000000) (disch := first | exact dq | fail) only [go_sem] at h)) <;> (try (simp (maxSteps := 1000000) (disch := first | exact dq | fail) only [go_sem, h])))))
        all_goals (try omega)
        refine ⟨k + 1, by omega, wk_by [0, 1] ?_, by omega⟩
        (simp (maxSteps := 1000000) (disch := first | exact dq | fail) only [go_sem, hx'])
    · obtain rfl : k = W := by omega
      have hcond : ¬ ((k : Int) < k) := by omega
      (repeat' (first
    | ((first | with_reducible (first | refine aw_seq ?_ | refine aw_region (aops_run ?_)) | (with_reducible refine aw_regionD (fun _ => .p) mixed ?_ (dops_run ?_); (· kernel_rfl)) | (with_reducible refine aw_regionD (fun _ => .r) mixed ?_ (dops_run ?_); (· kernel_rfl)) | with_reducible (first | refine aw_condK ?_ | refine aw_skip ?_ | refine aw_ret ?_ | refine aw_exit ?_ | refine aw_label ?_ | refine aw_block ?_ | refine aw_scope ?_ | refine And.intro ?_ ?_)) <;> (try (simp (maxSteps := 1000000) (disch := first | exact dq | fail) only [go_sem, hcond, decide_false])))
    | (with_reducible (first | refine wantK_split (fun h => ?_) (fun h => ?_) | refine condK_split (fun h => ?_) (fun h => ?_) | refine pickV_split (fun h => ?_) (fun h => ?_)) <;> (try (simp (maxSteps := 1000000) (disch := first | exact dq | fail) only [go_sem] at h)) <;> (try (simp (maxSteps := 1000000) (disch := first | exact dq | fail) only [go_sem, h, hcond, decide_false])))))
      all_goals (try omega)
      refine ⟨k, ⟨hk, .inl rfl⟩, wk_by [1] ?_⟩
      (simp (maxSteps := 1000000) (disch := first | exact dq | fail) only [go_sem])
  · rintro k ⟨hk, hend⟩
    have hx : plc (wK l W k) l.length (cV W c k) i0 = cL (wK l W k) (cV W c k) l.length + cN (wK l W k) (cV W c k) i0 := rfl
    have hfit := cN_mono (wK l W k) (cV W c k) hi0n
    have hpe := part_end (wK l W k) (cV W c k) l.length
    have hres : cN (wK l W k) (cV W c k) i0 = cN (sy l) c i0 := by
      rcases hend with e | e
      · subst e
        rw [cV_all, hw.cnt c hi0n]
      · have := cN_sub (K := sy l) (K' := wK l W k) (v := cV W c k) (c := c) (n := i0) (fun j hj e => by rw [hw.key hk (by omega), e])
        omega
    have fin : min (max ((plc (wK l W k) l.length (cV W c k) i0 : Nat) : Int) (cL (wK l W k) (cV W c k) l.length : Nat)) (cL (wK l W k) (cV W c k + 1) l.length : Nat) - (cL (wK l W k) (cV W c k) l.length : Nat) = (cN (sy l) c i0 : Nat) := by omega
    have hcn := cN_le (sy l) c i0
    (repeat' (first
    | ((first | with_reducible (first | refine aw_seq ?_ | refine aw_region (aops_run ?_)) | (with_reducible refine aw_regionD (fun _ => .p) mixed ?_ (dops_run ?_); (· kernel_rfl)) | (with_reducible refine aw_regionD (fun _ => .r) mixed ?_ (dops_run ?_); (· kernel_rfl)) | with_reducible (first | refine aw_condK ?_ | refine aw_skip ?_ | refine aw_ret ?_ | refine aw_exit ?_ | refine aw_label ?_ | refine aw_block ?_ | refine aw_scope ?_ | refine And.intro ?_ ?_)) <;> (try (simp (maxSteps := 1000000) (disch := first | exact dq | fail) only [go_sem, fin])))
    | (with_reducible (first | refine wantK_split (fun h => ?_) (fun h => ?_) | refine condK_split (fun h => ?_) (fun h => ?_) | refine pickV_split (fun h => ?_) (fun h => ?_)) <;> (try (simp (maxSteps := 1000000) (disch := first | exact dq | fail) only [go_sem] at h)) <;> (try (simp (maxSteps := 1000000) (disch := first | exact dq | fail) only [go_sem, h, fin])))))
    all_goals (try omega)
theorem Rank_out (n : Nat) (size : Int) (rows : List (List Bool)) (c i : Int) (hc : ¬ (0 ≤ c ∧ c < size)) : PCalls Try.prog 13 [waveV n size rows, .int .i64 c, .int .i64 i] (.int .i64 0) := by
  have hI := is_spec n size rows c
  have : (decide (0 ≤ c) && decide (c < size)) = false := by
    by_cases h : 0 ≤ c
    · rw [decide_eq_false (show ¬ c < size by omega), Bool.and_false]
    · rw [decide_eq_false h, Bool.false_and]
  rw [this] at hI
  unfold waveV at hI
  refine PCalls.of_aw Try.func13 rfl (by unfold Callable; kernel_rfl) (by kernel_rfl) (by simp [Try.ntmps13]) ?_; rw [Try.ntmps13, Try.results13]; (simp (disch := first | exact dq | fail) only [go_sem, waveV])
  (repeat' (first
    | ((first | with_reducible (first | refine aw_seq ?_ | refine aw_region (aops_run ?_)) | (with_reducible refine aw_regionD (fun _ => .p) mixed ?_ (dops_run ?_); (· kernel_rfl)) | (with_reducible refine aw_regionD (fun _ => .r) mixed ?_ (dops_run ?_); (· kernel_rfl)) | with_reducible (first | refine aw_condK ?_ | refine aw_skip ?_ | refine aw_ret ?_ | refine aw_exit ?_ | refine aw_label ?_ | refine aw_block ?_ | refine aw_scope ?_ | refine And.intro ?_ ?_)) <;> (try (simp (disch := first | exact dq | fail) only [go_sem])))
    | (with_reducible (first | refine wantK_split (fun h => ?_) (fun h => ?_) | refine condK_split (fun h => ?_) (fun h => ?_) | refine pickV_split (fun h => ?_) (fun h => ?_)) <;> (try (simp (disch := first | exact dq | fail) only [go_sem] at h)) <;> (try (simp (disch := first | exact dq | fail) only [go_sem, h])))))
  ((first | with_reducible apply left_callf | with_reducible apply leftD_callf | with_reducible apply leftF_callf); (· with_reducible rfl); (· (simp (disch := first | exact dq | fail) only [go_sem]) <;> rfl); (· exact hI); try (simp (disch := first | exact dq | fail) only [go_sem]))
  (repeat' (first
    | ((first | with_reducible (first | refine aw_seq ?_ | refine aw_region (aops_run ?_)) | (with_reducible refine aw_regionD (fun _ => .p) mixed ?_ (dops_run ?_); (· kernel_rfl)) | (with_reducible refine aw_regionD (fun _ => .r) mixed ?_ (dops_run ?_); (· kernel_rfl)) | with_reducible (first | refine aw_condK ?_ | refine aw_skip ?_ | refine aw_ret ?_ | refine aw_exit ?_ | refine aw_label ?_ | refine aw_block ?_ | refine aw_scope ?_ | refine And.intro ?_ ?_)) <;> (try (simp (disch := first | exact dq | fail) only [go_sem])))
    | (with_reducible (first | refine wantK_split (fun h => ?_) (fun h => ?_) | refine condK_split (fun h => ?_) (fun h => ?_) | refine pickV_split (fun h => ?_) (fun h => ?_)) <;> (try (simp (disch := first | exact dq | fail) only [go_sem] at h)) <;> (try (simp (disch := first | exact dq | fail) only [go_sem, h])))))
theorem Count_in {l : List Int} {W : Nat} {rows : List (List Bool)} (hw : WOk l W rows) (size : Int) (c : Nat) (hc : (c : Int) < size) (hcW : c < 2 ^ W) (i j : Int) (hW : W ≤ 62) (hn : l.length ≤ 100000000) :
    PCalls Try.prog 16 [waveV l.length size rows, .int .i64 c, .int .i64 i, .int .i64 j] (.int .i64 ((cN (sy l) c (clI l.length (max j (clI l.length i))) : Nat) - (cN (sy l) c (clI l.length i) : Nat))) := by
  obtain ⟨i0, hi0⟩ : ∃ i0, i0 = clI l.length i := ⟨_, rfl⟩
  have ei : min (max i 0) (l.length : Int) = (i0 : Int) := by rw [hi0]; unfold clI; omega
  have hi0n := clI_le l.length i
  obtain ⟨j0, hj0⟩ : ∃ j0, j0 = clI l.length (max j i0) := ⟨_, rfl⟩
  have ej : min (max j (i0 : Int)) (l.length : Int) = (j0 : Int) := by rw [hj0]; unfold clI; omega
  rw [← hi0] at hi0n ⊢
  have hj0n : j0 ≤ l.length := by rw [hj0]; exact clI_le _ _
  rw [← hj0]
  have h1 := Rank_in hw size c hc hcW j0 hW hn
  have h2 := Rank_in hw size c hc hcW i0 hW hn
  rw [show clI l.length j0 = j0 by unfold clI; omega] at h1
  rw [show clI l.length i0 = i0 by unfold clI; omega] at h2
  have c1 := cN_le (sy l) c j0
  have c2 := cN_le (sy l) c i0
  unfold waveV at h1 h2
  refine PCalls.of_aw Try.func16 rfl (by unfold Callable; kernel_rfl) (by kernel_rfl) (by simp [Try.ntmps16]) ?_; rw [Try.ntmps16, Try.results16]; (simp (disch := first | exact dq | fail) only [go_sem, waveV])
  (repeat' (first
    | ((first | with_reducible (first | refine aw_seq ?_ | refine aw_region (aops_run ?_)) | (with_reducible refine aw_regionD (fun _ => .p) mixed ?_ (dops_run ?_); (· kernel_rfl)) | (with_reducible refine aw_regionD (fun _ => .r) mixed ?_ (dops_run ?_); (· kernel_rfl)) | with_reducible (first | refine aw_condK ?_ | refine aw_skip ?_ | refine aw_ret ?_ | refine aw_exit ?_ | refine aw_label ?_ | refine aw_block ?_ | refine aw_scope ?_ | refine And.intro ?_ ?_)) <;> (try (simp (disch := first | exact dq | fail) only [go_sem, ei, ej])))
    | (with_reducible (first | refine wantK_split (fun h => ?_) (fun h => ?_) | refine condK_split (fun h => ?_) (fun h => ?_) | refine pickV_split (fun h => ?_) (fun h => ?_)) <;> (try (simp (disch := first | exact dq | fail) only [go_sem] at h)) <;> (try (simp (disch := first | exact dq | fail) only [go_sem, h, ei, ej])))))
  all_goals (try omega)
  ((first | with_reducible apply left_callf | with_reducible apply leftD_callf | with_reducible apply leftF_callf); (· with_reducible rfl); (· (simp (disch := first | exact dq | fail) only [go_sem]) <;> rfl); (· exact h1); try (simp (disch := first | exact dq | fail) only [go_sem]))
  (repeat' (first
    | ((first | with_reducible (first | refine aw_seq ?_ | refine aw_region (aops_run ?_)) | (with_reducible refine aw_regionD (fun _ => .p) mixed ?_ (dops_run ?_); (· kernel_rfl)) | (with_reducible refine aw_regionD (fun _ => .r) mixed ?_ (dops_run ?_); (· kernel_rfl)) | with_reducible (first | refine aw_condK ?_ | refine aw_skip ?_ | refine aw_ret ?_ | refine aw_exit ?_ | refine aw_label ?_ | refine aw_block ?_ | refine aw_scope ?_ | refine And.intro ?_ ?_)) <;> (try (simp (disch := first | exact dq | fail) only [go_sem])))
    | (with_reducible (first | refine wantK_split (fun h => ?_) (fun h => ?_) | refine condK_split (fun h => ?_) (fun h => ?_) | refine pickV_split (fun h => ?_) (fun h => ?_)) <;> (try (simp (disch := first | exact dq | fail) only [go_sem] at h)) <;> (try (simp (disch := first | exact dq | fail) only [go_sem, h])))))
  ((first | with_reducible apply left_callf | with_reducible apply leftD_callf | with_reducible apply leftF_callf); (· with_reducible rfl); (· (simp (disch := first | exact dq | fail) only [go_sem]) <;> rfl); (· exact h2); try (simp (disch := first | exact dq | fail) only [go_sem]))
  (repeat' (first
    | ((first | with_reducible (first | refine aw_seq ?_ | refine aw_region (aops_run ?_)) | (with_reducible refine aw_regionD (fun _ => .p) mixed ?_ (dops_run ?_); (· kernel_rfl)) | (with_reducible refine aw_regionD (fun _ => .r) mixed ?_ (dops_run ?_); (· kernel_rfl)) | with_reducible (first | refine aw_condK ?_ | refine aw_skip ?_ | refine aw_ret ?_ | refine aw_exit ?_ | refine aw_label ?_ | refine aw_block ?_ | refine aw_scope ?_ | refine And.intro ?_ ?_)) <;> (try (simp (disch := first | exact dq | fail) only [go_sem])))
    | (with_reducible (first | refine wantK_split (fun h => ?_) (fun h => ?_) | refine condK_split (fun h => ?_) (fun h => ?_) | refine pickV_split (fun h => ?_) (fun h => ?_)) <;> (try (simp (disch := first | exact dq | fail) only [go_sem] at h)) <;> (try (simp (disch := first | exact dq | fail) only [go_sem, h])))))
  all_goals (try omega)
theorem Count_out (n : Nat) (size : Int) (rows : List (List Bool)) (c i j : Int) (hc : ¬ (0 ≤ c ∧ c < size)) : PCalls Try.prog 16 [waveV n size rows, .int .i64 c, .int .i64 i, .int .i64 j] (.int .i64 0) := by
  have h := fun i => Rank_out n size rows c i hc
  unfold waveV at h
  refine PCalls.of_aw Try.func16 rfl (by unfold Callable; kernel_rfl) (by kernel_rfl) (by simp [Try.ntmps16]) ?_; rw [Try.ntmps16, Try.results16]; (simp (disch := first | exact dq | fail) only [go_sem, waveV])
  (repeat' (first
    | ((first | with_reducible (first | refine aw_seq ?_ | refine aw_region (aops_run ?_)) | (with_reducible refine aw_regionD (fun _ => .p) mixed ?_ (dops_run ?_); (· kernel_rfl)) | (with_reducible refine aw_regionD (fun _ => .r) mixed ?_ (dops_run ?_); (· kernel_rfl)) | with_reducible (first | refine aw_condK ?_ | refine aw_skip ?_ | refine aw_ret ?_ | refine aw_exit ?_ | refine aw_label ?_ | refine aw_block ?_ | refine aw_scope ?_ | refine And.intro ?_ ?_)) <;> (try (simp (disch := first | exact dq | fail) only [go_sem])))
    | (with_reducible (first | refine wantK_split (fun h => ?_) (fun h => ?_) | refine condK_split (fun h => ?_) (fun h => ?_) | refine pickV_split (fun h => ?_) (fun h => ?_)) <;> (try (simp (disch := first | exact dq | fail) only [go_sem] at h)) <;> (try (simp (disch := first | exact dq | fail) only [go_sem, h])))))
  all_goals (try omega)
  ((first | with_reducible apply left_callf | with_reducible apply leftD_callf | with_reducible apply leftF_callf); (· with_reducible rfl); (· (simp (disch := first | exact dq | fail) only [go_sem]) <;> rfl); (· exact h _); try (simp (disch := first | exact dq | fail) only [go_sem]))
  (repeat' (first
    | ((first | with_reducible (first | refine aw_seq ?_ | refine aw_region (aops_run ?_)) | (with_reducible refine aw_regionD (fun _ => .p) mixed ?_ (dops_run ?_); (· kernel_rfl)) | (with_reducible refine aw_regionD (fun _ => .r) mixed ?_ (dops_run ?_); (· kernel_rfl)) | with_reducible (first | refine aw_condK ?_ | refine aw_skip ?_ | refine aw_ret ?_ | refine aw_exit ?_ | refine aw_label ?_ | refine aw_block ?_ | refine aw_scope ?_ | refine And.intro ?_ ?_)) <;> (try (simp (disch := first | exact dq | fail) only [go_sem])))
    | (with_reducible (first | refine wantK_split (fun h => ?_) (fun h => ?_) | refine condK_split (fun h => ?_) (fun h => ?_) | refine pickV_split (fun h => ?_) (fun h => ?_)) <;> (try (simp (disch := first | exact dq | fail) only [go_sem] at h)) <;> (try (simp (disch := first | exact dq | fail) only [go_sem, h])))))
  ((first | with_reducible apply left_callf | with_reducible apply leftD_callf | with_reducible apply leftF_callf); (· with_reducible rfl); (· (simp (disch := first | exact dq | fail) only [go_sem]) <;> rfl); (· exact h _); try (simp (disch := first | exact dq | fail) only [go_sem]))
  (repeat' (first
    | ((first | with_reducible (first | refine aw_seq ?_ | refine aw_region (aops_run ?_)) | (with_reducible refine aw_regionD (fun _ => .p) mixed ?_ (dops_run ?_); (· kernel_rfl)) | (with_reducible refine aw_regionD (fun _ => .r) mixed ?_ (dops_run ?_); (· kernel_rfl)) | with_reducible (first | refine aw_condK ?_ | refine aw_skip ?_ | refine aw_ret ?_ | refine aw_exit ?_ | refine aw_label ?_ | refine aw_block ?_ | refine aw_scope ?_ | refine And.intro ?_ ?_)) <;> (try (simp (disch := first | exact dq | fail) only [go_sem])))
    | (with_reducible (first | refine wantK_split (fun h => ?_) (fun h => ?_) | refine condK_split (fun h => ?_) (fun h => ?_) | refine pickV_split (fun h => ?_) (fun h => ?_)) <;> (try (simp (disch := first | exact dq | fail) only [go_sem] at h)) <;> (try (simp (disch := first | exact dq | fail) only [go_sem, h])))))
set_option maxHeartbeats 2000000 in
theorem Below_in {l : List Int} {W : Nat} {rows : List (List Bool)} (hw : WOk l W rows) (size : Int) (c : Nat) (hc0 : 0 < c) (hc : (c : Int) < size) (hcW : c < 2 ^ W) (i : Int) (hW : W ≤ 62) (hn : l.length ≤ 100000000) :
    PCalls Try.prog 14 [waveV l.length size rows, .int .i64 c, .int .i64 i] (.int .i64 (cL (sy l) c (clI l.length i) : Nat)) := by
  obtain ⟨i0, hi0⟩ : ∃ i0, i0 = clI l.length i := ⟨_, rfl⟩
  have hi0n : i0 ≤ l.length := by rw [hi0]; exact clI_le _ _
  have ei : min (max i 0) (l.length : Int) = (i0 : Int) := by rw [hi0]; unfold clI; omega
  rw [← hi0]
  have hlen := hw.len
  have hat := fun k => @WOk.at_ _ _ _ hw k
  have hp62 := pow62 hW
  have hbit := fun k hk => bit_spec l.length size rows c k hk (by omega) (by omega)
  have hv0 : cV W c 0 = 0 := cV_zero hcW
  have f0 := cL_zero (wK l W 0) l.length
  have f1 := cL0 l W l.length
  have fi := cL_zero (wK l W 0) i0
  have hp0 : plc (wK l W 0) l.length 0 i0 = i0 := by unfold plc; rw [f0, cN0, Nat.zero_add]
  have k1 : ¬ ((c : Int) ≤ 0) := by omega
  have k2 : ¬ ((c : Int) ≥ size) := by omega
  unfold waveV at hbit
  refine PCalls.of_aw Try.func14 rfl (by unfold Callable; kernel_rfl) (by kernel_rfl) (by simp [Try.ntmps14]) ?_; rw [Try.ntmps14, Try.results14]; (simp (maxSteps := 1000000) (disch := first | exact dq | fail) only [go_sem, waveV])
  (repeat' (first
    | ((first | with_reducible (first | refine aw_seq ?_ | refine aw_region (aops_run ?_)) | (with_reducible refine aw_regionD (fun _ => .p) mixed ?_ (dops_run ?_); (· kernel_rfl)) | (with_reducible refine aw_regionD (fun _ => .r) mixed ?_ (dops_run ?_); (· kernel_rfl)) | with_reducible (first | refine aw_condK ?_ | refine aw_skip ?_ | refine aw_ret ?_ | refine aw_exit ?_ | refine aw_label ?_ | refine aw_block ?_ | refine aw_scope ?_ | refine And.intro ?_ ?_)) <;> (try (simp (maxSteps := 1000000) (disch := first | exact dq | fail) only [go_sem, ei, k1, k2, decide_false])))
    | (with_reducible (first | refine wantK_split (fun h => ?_) (fun h => ?_) | refine condK_split (fun h => ?_) (fun h => ?_) | refine pickV_split (fun h => ?_) (fun h => ?_)) <;> (try (simp (maxSteps := 1000000) (disch := first | exact dq | fail) only [go_sem] at h)) <;> (try (simp (maxSteps := 1000000) (disch := first | exact dq | fail) only [go_sem, h, ei, k1, k2, decide_false])))))
  all_goals (try omega)
  refine aw_loop (α := Nat) (fun k => ⟨64, sl [(1, .iv (.int .i64 c)), (2, .iv (.int .i64 (plc (wK l W k) l.length (cV W c k) i0))), (3, .mp 0 0), (7, .mp 1 0), (8, .iv (.int .i64 (cL (wK l W k) (cV W c k) i0))), (30, .iv (.sl 7 (rows.map rankV))), (31, .iv (.int .i64 W)), (32, .iv (.int .i64 k))],
      [.var 29 [.iv (.int .i64 l.length), .iv (.int .i64 size), .iv (.sl 7 (rows.map rankV))], .var 74 [.iv (.int .i64 (cL (wK l W k) (cV W c k) l.length)), .iv (.int .i64 (cL (wK l W k) (cV W c k + 1) l.length))]], 0⟩)
    (fun k => k ≤ W) (fun k => W - k) 0 (wk_by [0, 1] ?_) (by omega) ?_
  · (simp (maxSteps := 1000000) (disch := first | exact dq | fail) only [go_sem, hp0, hv0, f0, f1, fi, hlen])
  rintro k hk
  have hcl := cL_le (wK l W k) (cV W c k) i0
  by_cases h : k < W
  · have hB := hat k h
    have hcond : (k : Int) < W := by omega
    have hb := hbit k (by omega)
    obtain ⟨β, hβ⟩ : ∃ β : Bool, c / 2 ^ (W - 1 - k) % 2 = b01 β := ⟨decide (c / 2 ^ (W - 1 - k) % 2 = 1), by
      by_cases e : c / 2 ^ (W - 1 - k) % 2 = 1
      · rw [decide_eq_true e, e]; rfl
      · rw [decide_eq_false e]; show _ = 0; omega⟩
    have hvs := cV_succ (c := c) h
    rw [hlen, hβ, ← bI_nat] at hb
    rw [hβ] at hvs
    have hP := place_spec (wK l W k) (bitN W (sy l) k) l.length (cV W c k) i0 β hn hi0n
    have hD := down_spec (wK l W k) (bitN W (sy l) k) l.length (cV W c k) β hn
    have hrc := row_count (wK l W k) (bitN W (sy l) k) l.length (cV W c k) false i0 hi0n
    have hct := cL_two (wK l W k) (bitN W (sy l) k) (cV W c k) i0
    have hcn := cL_next (nxtK (wK l W k) (bitN W (sy l) k)) (2 * cV W c k) i0
    have hbl := rowK_len (wK l W k) (bitN W (sy l) k) l.length
    have hR1 := Rank0_spec (rowK (wK l W k) (bitN W (sy l) k) l.length) (plc (wK l W k) l.length (cV W c k) i0) (by omega)
    have hR2 := Rank0_spec (rowK (wK l W k) (bitN W (sy l) k) l.length) (cL (wK l W k) (cV W c k) l.length) (by omega)
    rw [Int.toNat_natCast] at hR1 hR2
    have hpl : plc (wK l W k) l.length (cV W c k) i0 = cL (wK l W k) (cV W c k) l.length + cN (wK l W k) (cV W c k) i0 := rfl
    rw [← hpl] at hrc
    have hc1 := cntB_le (rowK (wK l W k) (bitN W (sy l) k) l.length) false (plc (wK l W k) l.length (cV W c k) i0)
    have hfit := cN_fit (wK l W k) (cV W c k) l.length hi0n
    have hnk : nxtK (wK l W k) (bitN W (sy l) k) = wK l W (k + 1) := rfl
    rw [← hvs, hnk] at hP hD
    rw [hnk] at hrc hct hcn
    change _ = _ + cN _ (2 * cV W c k) i0 at hrc
    unfold prt partV at hP hD
    have hcl2 := cL_le (wK l W (k + 1)) (2 * cV W c k + 1) i0
    rw [hpl] at hc1
    rw [← hpl] at hc1 hfit
    generalize rowK (wK l W k) (bitN W (sy l) k) l.length = B at *
    generalize cntB B false (plc (wK l W k) l.length (cV W c k) i0) = y1 at *
    generalize cntB B false (cL (wK l W k) (cV W c k) l.length) = y2 at *
    clear hpl
    generalize plc (wK l W k) l.length (cV W c k) i0 = x at *
    obtain ⟨x', hx'⟩ : ∃ x', x' = plc (wK l W (k + 1)) l.length (cV W c (k + 1)) i0 := ⟨_, rfl⟩
    rw [← hx'] at hP
    cases β with
    | false =>
      have e0 : bI false = 0 := rfl
      rw [e0] at hb hP hD
      have hv2 : cV W c (k + 1) = 2 * cV W c k := hvs
      rw [← hv2] at hct
      (repeat' (first
    | ((first | with_reducible (first | refine aw_seq ?_ | refine aw_region (aops_run ?_)) | (with_reducible refine aw_regionD (fun _ => .p) mixed ?_ (dops_run ?_); (· kernel_rfl)) | (with_reducible refine aw_regionD (fun _ => .r) mixed ?_ (dops_run ?_); (· kernel_rfl)) | with_reducible (first | refine aw_condK ?_ | refine aw_skip ?_ | refine aw_ret ?_ | refine aw_exit ?_ | refine aw_label ?_ | refine aw_block ?_ | refine aw_scope ?_ | refine And.intro ?_ ?_)) <;> (try (simp (maxSteps := 1000000) (disch := first | exact dq | fail) only [go_sem, hcond, hB, decide_true, decide_false])))
    | (with_reducible (first | refine wantK_split (fun h => ?_) (fun h => ?_) | refine condK_split (fun h => ?_) (fun h => ?_) | refine pickV_split (fun h => ?_) (fun h => ?_)) <;> (try (simp (maxSteps := 1000000) (disch := first | exact dq | fail) only [go_sem] at h)) <;> (try (simp (maxSteps := 1000000) (disch := first | exact dq | fail) only [go_sem, h, hcond, hB, decide_true, decide_false])))))
      all_goals (try omega)
      ((first | with_reducible apply left_callf | with_reducible apply leftD_callf | with_reducible apply leftF_callf); (· with_reducible rfl); (· (simp (maxSteps := 1000000) (disch := first | exact dq | fail) only [go_sem]) <;> rfl); (· exact hb); try (simp (maxSteps := 1000000) (disch := first | exact dq | fail) only [go_sem]))
      (repeat' (first
    | ((first | with_reducible (first | refine aw_seq ?_ | refine aw_region (aops_run ?_)) | (with_reducible refine aw_regionD (fun _ => .p) mixed ?_ (dops_run ?_); (· kernel_rfl)) | (with_reducible refine aw_regionD (fun _ => .r) mixed ?_ (dops_run ?_); (· kernel_rfl)) | with_reducible (first | refine aw_condK ?_ | refine aw_skip ?_ | refine aw_ret ?_ | refine aw_exit ?_ | refine aw_label ?_ | refine aw_block ?_ | refine aw_scope ?_ | refine And.intro ?_ ?_)) <;> (try (simp (maxSteps := 1000000) (disch := first | exact dq | fail) only [go_sem])))
    | (with_reducible (first | refine wantK_split (fun h => ?_) (fun h => ?_) | refine condK_split (fun h => ?_) (fun h => ?_) | refine pickV_split (fun h => ?_) (fun h => ?_)) <;> (try (simp (maxSteps := 1000000) (disch := first | exact dq | fail) only [go_sem] at h)) <;> (try (simp (maxSteps := 1000000) (disch := first | exact dq | fail) only [go_sem, h])))))
      all_goals (try omega)
      ((first | with_reducible apply left_callf | with_reducible apply leftD_callf | with_reducible apply leftF_callf); (· with_reducible rfl); (· (simp (maxSteps := 1000000) (disch := first | exact dq | fail) only [go_sem]) <;> rfl); (· exact hP); try (simp (maxSteps := 1000000) (disch := first | exact dq | fail) only [go_sem]))
      (repeat' (first
    | ((first | with_reducible (first | refine aw_seq ?_ | refine aw_region (aops_run ?_)) | (with_reducible refine aw_regionD (fun _ => .p) mixed ?_ (dops_run ?_); (· kernel_rfl)) | (with_reducible refine aw_regionD (fun _ => .r) mixed ?_ (dops_run ?_); (· kernel_rfl)) | with_reducible (first | refine aw_condK ?_ | refine aw_skip ?_ | refine aw_ret ?_ | refine aw_exit ?_ | refine aw_label ?_ | refine aw_block ?_ | refine aw_scope ?_ | refine And.intro ?_ ?_)) <;> (try (simp (maxSteps := 1000000) (disch := first | exact dq | fail) only [go_sem])))
    | (with_reducible (first | refine wantK_split (fun h => ?_) (fun h => ?_) | refine condK_split (fun h => ?_) (fun h => ?_) | refine pickV_split (fun h => ?_) (fun h => ?_)) <;> (try (simp (maxSteps := 1000000) (disch := first | exact dq | fail) only [go_sem] at h)) <;> (try (simp (maxSteps := 1000000) (disch := first | exact dq | fail) only [go_sem, h])))))
      ((first | with_reducible apply left_callf | with_reducible apply leftD_callf | with_reducible apply leftF_callf); (· with_reducible rfl); (· (simp (maxSteps := 1000000) (disch := first | exact dq | fail) only [go_sem]) <;> rfl); (· exact hD); try (simp (maxSteps := 1000000) (disch := first | exact dq | fail) only [go_sem]))
      (repeat' (first
    | ((first | with_reducible (first | refine aw_seq ?_ | refine aw_region (aops_run ?_)) | (with_reducible refine aw_regionD (fun _ => .p) mixed ?_ (dops_run ?_); (· kernel_rfl)) | (with_reducible refine aw_regionD (fun _ => .r) mixed ?_ (dops_run ?_); (· kernel_rfl)) | with_reducible (first | refine aw_condK ?_ | refine aw_skip ?_ | refine aw_ret ?_ | refine aw_exit ?_ | refine aw_label ?_ | refine aw_block ?_ | refine aw_scope ?_ | refine And.intro ?_ ?_)) <;> (try (simp (maxSteps := 1000000) (disch := first | exact dq | fail) only [go_sem])))
    | (with_reducible (first | refine wantK_split (fun h => ?_) (fun h => ?_) | refine condK_split (fun h => ?_) (fun h => ?_) | refine pickV_split (fun h => ?_) (fun h => ?_)) <;> (try (simp (maxSteps := 1000000) (disch := first | exact dq | fail) only [go_sem] at h)) <;> (try (simp (maxSteps := 1000000) (disch := first | exact dq | fail) only [go_sem, h])))))
      all_goals (try omega)
      refine ⟨k + 1, by omega, wk_by [0, 1] ?_, by omega⟩
      (simp (maxSteps := 1000000) (disch := first | exact dq | fail) only [go_sem, hx', hct])
    | true =>
      have e0 : bI true = 1 := rfl
      rw [e0] at hb hP hD
      have hv2 : cV W c (k + 1) = 2 * cV W c k + 1 := hvs
      rw [← hv2, hct] at hcn
      rw [← hv2] at hcl2
      have hsum : (cL (wK l W k) (cV W c k) i0 : Int) + ((y1 : Int) - y2) = (cL (wK l W (k + 1)) (cV W c (k + 1)) i0 : Nat) := by omega
      (repeat' (first
    | ((first | with_reducible (first | refine aw_seq ?_ | refine aw_region (aops_run ?_)) | (with_reducible refine aw_regionD (fun _ => .p) mixed ?_ (dops_run ?_); (· kernel_rfl)) | (with_reducible refine aw_regionD (fun _ => .r) mixed ?_ (dops_run ?_); (· kernel_rfl)) | with_reducible (first | refine aw_condK ?_ | refine aw_skip ?_ | refine aw_ret ?_ | refine aw_exit ?_ | refine aw_label ?_ | refine aw_block ?_ | refine aw_scope ?_ | refine And.intro ?_ ?_)) <;> (try (simp (maxSteps := 1000000) (disch := first | exact dq | fail) only [go_sem, hcond, hB, decide_true, decide_false])))
    | (with_reducible (first | refine wantK_split (fun h => ?_) (fun h => ?_) | refine condK_split (fun h => ?_) (fun h => ?_) | refine pickV_split (fun h => ?_) (fun h => ?_)) <;> (try (simp (maxSteps := 1000000) (disch := first | exact dq | fail) only [go_sem] at h)) <;> (try (simp (maxSteps := 1000000) (disch := first | exact dq | fail) only [go_sem, h, hcond, hB, decide_true, decide_false])))))
      all_goals (try omega)
      ((first | with_reducible apply left_callf | with_reducible apply leftD_callf | with_reducible apply leftF_callf); (· with_reducible rfl); (· (simp (maxSteps := 1000000) (disch := first | exact dq | fail) only [go_sem]) <;> rfl); (· exact hb); try (simp (maxSteps := 1000000) (disch := first | exact dq | fail) only [go_sem]))
      (repeat' (first
    | ((first | with_reducible (first | refine aw_seq ?_ | refine aw_region (aops_run ?_)) | (with_reducible refine aw_regionD (fun _ => .p) mixed ?_ (dops_run ?_); (· kernel_rfl)) | (with_reducible refine aw_regionD (fun _ => .r) mixed ?_ (dops_run ?_); (· kernel_rfl)) | with_reducible (first | refine aw_condK ?_ | refine aw_skip ?_ | refine aw_ret ?_ | refine aw_exit ?_ | refine aw_label ?_ | refine aw_block ?_ | refine aw_scope ?_ | refine And.intro ?_ ?_)) <;> (try (simp (maxSteps := 1000000) (disch := first | exact dq | fail) only [go_sem])))
    | (with_reducible (first | refine wantK_split (fun h => ?_) (fun h => ?_) | refine condK_split (fun h => ?_) (fun h => ?_) | refine pickV_split (fun h => ?_) (fun h => ?_)) <;> (try (simp (maxSteps := 1000000) (disch := first | exact dq | fail) only [go_sem] at h)) <;> (try (simp (maxSteps := 1000000) (disch := first | exact dq | fail) only [go_sem, h])))))
      all_goals (try omega)
      ((first | with_reducible apply left_callf | with_reducible apply leftD_callf | with_reducible apply leftF_callf); (· with_reducible rfl); (· (simp (maxSteps := 1000000) (disch := first | exact dq | fail) only [go_sem]) <;> rfl); (· exact hR1); try (simp (maxSteps := 1000000) (disch := first | exact dq | fail) only [go_sem]))
      (repeat' (first
    | ((first | with_reducible (first | refine aw_seq ?_ | refine aw_region (aops_run ?_)) | (with_reducible refine aw_regionD (fun _ => .p) mixed ?_ (dops_run ?_); (· kernel_rfl)) | (with_reducible refine aw_regionD (fun _ => .r) mixed ?_ (dops_run ?_); (· kernel_rfl)) | with_reducible (first | refine aw_condK ?_ | refine aw_skip ?_ | refine aw_ret ?_ | refine aw_exit ?_ | refine aw_label ?_ | refine aw_block ?_ | refine aw_scope ?_ | refine And.intro ?_ ?_)) <;> (try (simp (maxSteps := 1000000) (disch := first | exact dq | fail) only [go_sem])))
    | (with_reducible (first | refine wantK_split (fun h => ?_) (fun h => ?_) | refine condK_split (fun h => ?_) (fun h => ?_) | refine pickV_split (fun h => ?_) (fun h => ?_)) <;> (try (simp (maxSteps := 1000000) (disch := first | exact dq | fail) only [go_sem] at h)) <;> (try (simp (maxSteps := 1000000) (disch := first | exact dq | fail) only [go_sem, h])))))
      ((first | with_reducible apply left_callf | with_reducible apply leftD_callf | with_reducible apply leftF_callf); (· with_reducible rfl); (· (simp (maxSteps := 1000000) (disch := first | exact dq | fail) only [go_sem]) <;> rfl); (· exact hR2); try (simp (maxSteps := 1000000) (disch := first | exact dq | fail) only [go_sem]))
      (repeat' (first
    | ((first | with_reducible (first | refine aw_seq ?_ | refine aw_region (aops_run ?_)) | (with_reducible refine aw_regionD (fun _ => .p) mixed ?_ (dops_run ?_); (· kernel_rfl)) | (with_reducible refine aw_regionD (fun _ => .r) mixed ?_ (dops_run ?_); (· kernel_rfl)) | with_reducible (first | refine aw_condK ?_ | refine aw_skip ?_ | refine aw_ret ?_ | refine aw_exit ?_ | refine aw_label ?_ | refine aw_block ?_ | refine aw_scope ?_ | refine And.intro ?_ ?_)) <;> (try (simp (maxSteps := 1000000) (disch := first | exact dq | fail) only [go_sem, hsum])))
    | (with_reducible (first | refine wantK_split (fun h => ?_) (fun h => ?_) | refine condK_split (fun h => ?_) (fun h => ?_) | refine pickV_split (fun h => ?_) (fun h => ?_)) <;> (try (simp (maxSteps := 1000000) (disch := first | exact dq | fail) only [go_sem] at h)) <;> (try (simp (maxSteps := 1000000) (disch := first | exact dq | fail) only [go_sem, h, hsum])))))
      all_goals (try omega)
      ((first | with_reducible apply left_callf | with_reducible apply leftD_callf | with_reducible apply leftF_callf); (· with_reducible rfl); (· (simp (maxSteps := 1000000) (disch := first | exact dq | fail) only [go_sem]) <;> rfl); (· exact hP); try (simp (maxSteps := 1000000) (disch := first | exact dq | fail) only [go_sem]))
      (repeat' (first
    | ((first | with_reducible (first | refine aw_seq ?_ | refine aw_region (aops_run ?_)) | (with_reducible refine aw_regionD (fun _ => .p) mixed ?_ (dops_run ?_); (· kernel_rfl)) | (with_reducible refine aw_regionD (fun _ => .r) mixed ?_ (dops_run ?_); (· kernel_rfl)) | with_reducible (first | refine aw_condK ?_ | refine aw_skip ?_ | refine aw_ret ?_ | refine aw_exit ?_ | refine aw_label ?_ | refine aw_block ?_ | refine aw_scope ?_ | refine And.intro ?_ ?_)) <;> (try (simp (maxSteps := 1000000) (disch := first | exact dq | fail) only [go_sem])))
    | (with_reducible (first | refine wantK_split (fun h => ?_) (fun h => ?_) | refine condK_split (fun h => ?_) (fun h => ?_) | refine pickV_split (fun h => ?_) (fun h => ?_)) <;> (try (simp (maxSteps := 1000000) (disch := first | exact dq | fail) only [go_sem] at h)) <;> (try (simp (maxSteps := 1000000) (disch := first | exact dq | fail) only [go_sem, h])))))
      ((first | with_reducible apply left_callf | with_reducible apply leftD_callf | with_reducible apply leftF_callf); (· with_reducible rfl); (· (simp (maxSteps := 1000000) (disch := first | exact dq | fail) only [go_sem]) <;> rfl); (· exact hD); try (simp (maxSteps := 1000000) (disch := first | exact dq | fail) only [go_sem]))
      (repeat' (first
    | ((first | with_reducible (first | refine aw_seq ?_ | refine aw_region (aops_run ?_)) | (with_reducible refine aw_regionD (fun _ => .p) mixed ?_ (dops_run ?_); (· kernel_rfl)) | (with_reducible refine aw_regionD (fun _ => .r) mixed ?_ (dops_run ?_); (· kernel_rfl)) | with_reducible (first | refine aw_condK ?_ | refine aw_skip ?_ | refine aw_ret ?_ | refine aw_exit ?_ | refine aw_label ?_ | refine aw_block ?_ | refine aw_scope ?_ | refine And.intro ?_ ?_)) <;> (try (simp (maxSteps := 1000000) (disch := first | exact dq | fail) only [go_sem])))
    | (with_reducible (first | refine wantK_split (fun h => ?_) (fun h => ?_) | refine condK_split (fun h => ?_) (fun h => ?_) | refine pickV_split (fun h => ?_) (fun h => ?_)) <;> (try (simp (maxSteps := 1000000) (disch := first | exact dq | fail) only [go_sem] at h)) <;> (try (simp (maxSteps := 1000000) (disch := first | exact dq | fail) only [go_sem, h])))))
      all_goals (try omega)
      refine ⟨k + 1, by omega, wk_by [0, 1] ?_, by omega⟩
      (simp (maxSteps := 1000000) (disch := first | exact dq | fail) only [go_sem, hx'])
  · obtain rfl : k = W := by omega
    have hcond : ¬ ((k : Int) < k) := by omega
    rw [cV_all, hw.low c hi0n]
    (repeat' (first
    | ((first | with_reducible (first | refine aw_seq ?_ | refine aw_region (aops_run ?_)) | (with_reducible refine aw_regionD (fun _ => .p) mixed ?_ (dops_run ?_); (· kernel_rfl)) | (with_reducible refine aw_regionD (fun _ => .r) mixed ?_ (dops_run ?_); (· kernel_rfl)) | with_reducible (first | refine aw_condK ?_ | refine aw_skip ?_ | refine aw_ret ?_ | refine aw_exit ?_ | refine aw_label ?_ | refine aw_block ?_ | refine aw_scope ?_ | refine And.intro ?_ ?_)) <;> (try (simp (maxSteps := 1000000) (disch := first | exact dq | fail) only [go_sem, hcond, decide_false])))
    | (with_reducible (first | refine wantK_split (fun h => ?_) (fun h => ?_) | refine condK_split (fun h => ?_) (fun h => ?_) | refine pickV_split (fun h => ?_) (fun h => ?_)) <;> (try (simp (maxSteps := 1000000) (disch := first | exact dq | fail) only [go_sem] at h)) <;> (try (simp (maxSteps := 1000000) (disch := first | exact dq | fail) only [go_sem, h, hcond, decide_false])))))
    all_goals (try omega)
theorem Below_edge (n : Nat) (size : Int) (rows : List (List Bool)) (c i : Int) (hn : n ≤ 100000000) : (c ≤ 0 → PCalls Try.prog 14 [waveV n size rows, .int .i64 c, .int .i64 i] (.int .i64 0)) ∧
    (0 < c → size ≤ c → PCalls Try.prog 14 [waveV n size rows, .int .i64 c, .int .i64 i] (.int .i64 (clI n i))) := by
  have ei : min (max i 0) (n : Int) = (clI n i : Int) := by unfold clI; omega
  refine ⟨fun h => ?_, fun h h2 => ?_⟩
  · refine PCalls.of_aw Try.func14 rfl (by unfold Callable; kernel_rfl) (by kernel_rfl) (by simp [Try.ntmps14]) ?_; rw [Try.ntmps14, Try.results14]; (simp (disch := first | exact dq | fail) only [go_sem, waveV])
    (repeat' (first
    | ((first | with_reducible (first | refine aw_seq ?_ | refine aw_region (aops_run ?_)) | (with_reducible refine aw_regionD (fun _ => .p) mixed ?_ (dops_run ?_); (· kernel_rfl)) | (with_reducible refine aw_regionD (fun _ => .r) mixed ?_ (dops_run ?_); (· kernel_rfl)) | with_reducible (first | refine aw_condK ?_ | refine aw_skip ?_ | refine aw_ret ?_ | refine aw_exit ?_ | refine aw_label ?_ | refine aw_block ?_ | refine aw_scope ?_ | refine And.intro ?_ ?_)) <;> (try (simp (disch := first | exact dq | fail) only [go_sem, ei, h, decide_true])))
    | (with_reducible (first | refine wantK_split (fun h => ?_) (fun h => ?_) | refine condK_split (fun h => ?_) (fun h => ?_) | refine pickV_split (fun h => ?_) (fun h => ?_)) <;> (try (simp (disch := first | exact dq | fail) only [go_sem] at h)) <;> (try (simp (disch := first | exact dq | fail) only [go_sem, h, ei, h, decide_true])))))
    all_goals (try omega)
  · have k1 : ¬ (c ≤ 0) := by omega
    have k2 : c ≥ size := by omega
    refine PCalls.of_aw Try.func14 rfl (by unfold Callable; kernel_rfl) (by kernel_rfl) (by simp [Try.ntmps14]) ?_; rw [Try.ntmps14, Try.results14]; (simp (disch := first | exact dq | fail) only [go_sem, waveV])
    (repeat' (first
    | ((first | with_reducible (first | refine aw_seq ?_ | refine aw_region (aops_run ?_)) | (with_reducible refine aw_regionD (fun _ => .p) mixed ?_ (dops_run ?_); (· kernel_rfl)) | (with_reducible refine aw_regionD (fun _ => .r) mixed ?_ (dops_run ?_); (· kernel_rfl)) | with_reducible (first | refine aw_condK ?_ | refine aw_skip ?_ | refine aw_ret ?_ | refine aw_exit ?_ | refine aw_label ?_ | refine aw_block ?_ | refine aw_scope ?_ | refine And.intro ?_ ?_)) <;> (try (simp (disch := first | exact dq | fail) only [go_sem, ei, k1, k2, decide_true, decide_false])))
    | (with_reducible (first | refine wantK_split (fun h => ?_) (fun h => ?_) | refine condK_split (fun h => ?_) (fun h => ?_) | refine pickV_split (fun h => ?_) (fun h => ?_)) <;> (try (simp (disch := first | exact dq | fail) only [go_sem] at h)) <;> (try (simp (disch := first | exact dq | fail) only [go_sem, h, ei, k1, k2, decide_true, decide_false])))))
    all_goals (try omega)
end Go.Proofs.Ytkfjldkememadaa.AM
