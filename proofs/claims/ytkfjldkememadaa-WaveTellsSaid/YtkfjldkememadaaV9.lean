
/- Chapter 4: Select. No condition but lengths that fit. -/
import Derived.Test.YtkfjldkememadaaV8
set_option linter.unusedVariables false
set_option linter.unusedSimpArgs false
set_option maxRecDepth 20000
namespace Go.Proofs.Ytkfjldkememadaa.AM
open Go Go.RowKit

theorem Select_out0 (n : Nat) (size : Int) (rows : List (List Bool)) (c k : Int) (hc : ¬ (0 ≤ c ∧ c < size)) : PCalls Try.prog 15 [waveV n size rows, .int .i64 c, .int .i64 k] (.int .i64 (-1)) := by
  have hI := is_spec n size rows c
  have : (decide (0 ≤ c) && decide (c < size)) = false := by
    by_cases h : 0 ≤ c
    · rw [decide_eq_false (show ¬ c < size by omega), Bool.and_false]
    · rw [decide_eq_false h, Bool.false_and]
  rw [this] at hI
  unfold waveV at hI
  refine PCalls.of_aw Try.func15 rfl (by unfold Callable; kernel_rfl) (by kernel_rfl) (by simp [Try.ntmps15]) ?_; rw [Try.ntmps15, Try.results15]; (simp (disch := first | exact dq | fail) only [go_sem, waveV])
  (repeat' (first
    | ((first | with_reducible (first | refine aw_seq ?_ | refine aw_region (aops_run ?_)) | (with_reducible refine aw_regionD (fun _ => .p) mixed ?_ (dops_run ?_); (· kernel_rfl)) | (with_reducible refine aw_regionD (fun _ => .r) mixed ?_ (dops_run ?_); (· kernel_rfl)) | with_reducible (first | refine aw_condK ?_ | refine aw_skip ?_ | refine aw_ret ?_ | refine aw_exit ?_ | refine aw_label ?_ | refine aw_block ?_ | refine aw_scope ?_ | refine And.intro ?_ ?_)) <;> (try (simp (disch := first | exact dq | fail) only [go_sem])))
    | (with_reducible (first | refine wantK_split (fun h => ?_) (fun h => ?_) | refine condK_split (fun h => ?_) (fun h => ?_) | refine pickV_split (fun h => ?_) (fun h => ?_)) <;> (try (simp (disch := first | exact dq | fail) only [go_sem] at h)) <;> (try (simp (disch := first | exact dq | fail) only [go_sem, h])))))
  ((first | with_reducible apply left_callf | with_reducible apply leftD_callf | with_reducible apply leftF_callf); (· with_reducible rfl); (· (simp (disch := first | exact dq | fail) only [go_sem]) <;> rfl); (· exact hI); try (simp (disch := first | exact dq | fail) only [go_sem]))
  (repeat' (first
    | ((first | with_reducible (first | refine aw_seq ?_ | refine aw_region (aops_run ?_)) | (with_reducible refine aw_regionD (fun _ => .p) mixed ?_ (dops_run ?_); (· kernel_rfl)) | (with_reducible refine aw_regionD (fun _ => .r) mixed ?_ (dops_run ?_); (· kernel_rfl)) | with_reducible (first | refine aw_condK ?_ | refine aw_skip ?_ | refine aw_ret ?_ | refine aw_exit ?_ | refine aw_label ?_ | refine aw_block ?_ | refine aw_scope ?_ | refine And.intro ?_ ?_)) <;> (try (simp (disch := first | exact dq | fail) only [go_sem])))
    | (with_reducible (first | refine wantK_split (fun h => ?_) (fun h => ?_) | refine condK_split (fun h => ?_) (fun h => ?_) | refine pickV_split (fun h => ?_) (fun h => ?_)) <;> (try (simp (disch := first | exact dq | fail) only [go_sem] at h)) <;> (try (simp (disch := first | exact dq | fail) only [go_sem, h])))))
theorem Select_out1 {l : List Int} {W : Nat} {rows : List (List Bool)} (hw : WOk l W rows) (size : Int) (c : Nat) (hc : (c : Int) < size) (hcW : c < 2 ^ W) (k : Int) (hW : W ≤ 62) (hn : l.length ≤ 100000000) (hk : k < 0 ∨ (cN (sy l) c l.length : Nat) ≤ k) :
    PCalls Try.prog 15 [waveV l.length size rows, .int .i64 c, .int .i64 k] (.int .i64 (-1)) := by
  have hI := is_spec l.length size rows c
  rw [decide_eq_true (show (0 : Int) ≤ c by omega), decide_eq_true hc] at hI
  have hR := Rank_in hw size c hc hcW l.length hW hn
  rw [show clI l.length l.length = l.length by unfold clI; omega] at hR
  unfold waveV at hI hR
  by_cases g : k < 0
  · refine PCalls.of_aw Try.func15 rfl (by unfold Callable; kernel_rfl) (by kernel_rfl) (by simp [Try.ntmps15]) ?_; rw [Try.ntmps15, Try.results15]; (simp (disch := first | exact dq | fail) only [go_sem, waveV])
    (repeat' (first
    | ((first | with_reducible (first | refine aw_seq ?_ | refine aw_region (aops_run ?_)) | (with_reducible refine aw_regionD (fun _ => .p) mixed ?_ (dops_run ?_); (· kernel_rfl)) | (with_reducible refine aw_regionD (fun _ => .r) mixed ?_ (dops_run ?_); (· kernel_rfl)) | with_reducible (first | refine aw_condK ?_ | refine aw_skip ?_ | refine aw_ret ?_ | refine aw_exit ?_ | refine aw_label ?_ | refine aw_block ?_ | refine aw_scope ?_ | refine And.intro ?_ ?_)) <;> (try (simp (disch := first | exact dq | fail) only [go_sem])))
    | (with_reducible (first | refine wantK_split (fun h => ?_) (fun h => ?_) | refine condK_split (fun h => ?_) (fun h => ?_) | refine pickV_split (fun h => ?_) (fun h => ?_)) <;> (try (simp (disch := first | exact dq | fail) only [go_sem] at h)) <;> (try (simp (disch := first | exact dq | fail) only [go_sem, h])))))
    ((first | with_reducible apply left_callf | with_reducible apply leftD_callf | with_reducible apply leftF_callf); (· with_reducible rfl); (· (simp (disch := first | exact dq | fail) only [go_sem]) <;> rfl); (· exact hI); try (simp (disch := first | exact dq | fail) only [go_sem]))
    (repeat' (first
    | ((first | with_reducible (first | refine aw_seq ?_ | refine aw_region (aops_run ?_)) | (with_reducible refine aw_regionD (fun _ => .p) mixed ?_ (dops_run ?_); (· kernel_rfl)) | (with_reducible refine aw_regionD (fun _ => .r) mixed ?_ (dops_run ?_); (· kernel_rfl)) | with_reducible (first | refine aw_condK ?_ | refine aw_skip ?_ | refine aw_ret ?_ | refine aw_exit ?_ | refine aw_label ?_ | refine aw_block ?_ | refine aw_scope ?_ | refine And.intro ?_ ?_)) <;> (try (simp (disch := first | exact dq | fail) only [go_sem, g, decide_true])))
    | (with_reducible (first | refine wantK_split (fun h => ?_) (fun h => ?_) | refine condK_split (fun h => ?_) (fun h => ?_) | refine pickV_split (fun h => ?_) (fun h => ?_)) <;> (try (simp (disch := first | exact dq | fail) only [go_sem] at h)) <;> (try (simp (disch := first | exact dq | fail) only [go_sem, h, g, decide_true])))))
    all_goals (try omega)
  · have g2 : k ≥ (cN (sy l) c l.length : Nat) := by omega
    refine PCalls.of_aw Try.func15 rfl (by unfold Callable; kernel_rfl) (by kernel_rfl) (by simp [Try.ntmps15]) ?_; rw [Try.ntmps15, Try.results15]; (simp (disch := first | exact dq | fail) only [go_sem, waveV])
    (repeat' (first
    | ((first | with_reducible (first | refine aw_seq ?_ | refine aw_region (aops_run ?_)) | (with_reducible refine aw_regionD (fun _ => .p) mixed ?_ (dops_run ?_); (· kernel_rfl)) | (with_reducible refine aw_regionD (fun _ => .r) mixed ?_ (dops_run ?_); (· kernel_rfl)) | with_reducible (first | refine aw_condK ?_ | refine aw_skip ?_ | refine aw_ret ?_ | refine aw_exit ?_ | refine aw_label ?_ | refine aw_block ?_ | refine aw_scope ?_ | refine And.intro ?_ ?_)) <;> (try (simp (disch := first | exact dq | fail) only [go_sem])))
    | (with_reducible (first | refine wantK_split (fun h => ?_) (fun h => ?_) | refine condK_split (fun h => ?_) (fun h => ?_) | refine pickV_split (fun h => ?_) (fun h => ?_)) <;> (try (simp (disch := first | exact dq | fail) only [go_sem] at h)) <;> (try (simp (disch := first | exact dq | fail) only [go_sem, h])))))
    ((first | with_reducible apply left_callf | with_reducible apply leftD_callf | with_reducible apply leftF_callf); (· with_reducible rfl); (· (simp (disch := first | exact dq | fail) only [go_sem]) <;> rfl); (· exact hI); try (simp (disch := first | exact dq | fail) only [go_sem]))
    (repeat' (first
    | ((first | with_reducible (first | refine aw_seq ?_ | refine aw_region (aops_run ?_)) | (with_reducible refine aw_regionD (fun _ => .p) mixed ?_ (dops_run ?_); (· kernel_rfl)) | (with_reducible refine aw_regionD (fun _ => .r) mixed ?_ (dops_run ?_); (· kernel_rfl)) | with_reducible (first | refine aw_condK ?_ | refine aw_skip ?_ | refine aw_ret ?_ | refine aw_exit ?_ | refine aw_label ?_ | refine aw_block ?_ | refine aw_scope ?_ | refine And.intro ?_ ?_)) <;> (try (simp (disch := first | exact dq | fail) only [go_sem, g, decide_false])))
    | (with_reducible (first | refine wantK_split (fun h => ?_) (fun h => ?_) | refine condK_split (fun h => ?_) (fun h => ?_) | refine pickV_split (fun h => ?_) (fun h => ?_)) <;> (try (simp (disch := first | exact dq | fail) only [go_sem] at h)) <;> (try (simp (disch := first | exact dq | fail) only [go_sem, h, g, decide_false])))))
    all_goals (try omega)
    ((first | with_reducible apply left_callf | with_reducible apply leftD_callf | with_reducible apply leftF_callf); (· with_reducible rfl); (· (simp (disch := first | exact dq | fail) only [go_sem]) <;> rfl); (· exact hR); try (simp (disch := first | exact dq | fail) only [go_sem]))
    (repeat' (first
    | ((first | with_reducible (first | refine aw_seq ?_ | refine aw_region (aops_run ?_)) | (with_reducible refine aw_regionD (fun _ => .p) mixed ?_ (dops_run ?_); (· kernel_rfl)) | (with_reducible refine aw_regionD (fun _ => .r) mixed ?_ (dops_run ?_); (· kernel_rfl)) | with_reducible (first | refine aw_condK ?_ | refine aw_skip ?_ | refine aw_ret ?_ | refine aw_exit ?_ | refine aw_label ?_ | refine aw_block ?_ | refine aw_scope ?_ | refine And.intro ?_ ?_)) <;> (try (simp (disch := first | exact dq | fail) only [go_sem, g2, decide_true])))
    | (with_reducible (first | refine wantK_split (fun h => ?_) (fun h => ?_) | refine condK_split (fun h => ?_) (fun h => ?_) | refine pickV_split (fun h => ?_) (fun h => ?_)) <;> (try (simp (disch := first | exact dq | fail) only [go_sem] at h)) <;> (try (simp (disch := first | exact dq | fail) only [go_sem, h, g2, decide_true])))))
    all_goals (try omega)
def ptV (l : List Int) (W c j : Nat) : IV := .agg [.int .i64 (cL (wK l W j) (cV W c j) l.length), .int .i64 (cL (wK l W j) (cV W c j + 1) l.length)]
def ptL (l : List Int) (W c m : Nat) : List IV := (List.range m).map (ptV l W c)
theorem ptL_len (l : List Int) (W c m : Nat) : (ptL l W c m).length = m := by simp [ptL]
theorem ptL_get (l : List Int) (W c : Nat) {m j : Nat} (h : j < m) : (ptL l W c m)[j]? = some (ptV l W c j) := by simp [ptL, h]
theorem ptL_succ (l : List Int) (W c m : Nat) : ptL l W c (m + 1) = ptL l W c m ++ [ptV l W c m] := by simp [ptL, List.range_succ]
set_option maxHeartbeats 4000000 in
theorem Select_in {l : List Int} {W : Nat} {rows : List (List Bool)} (hw : WOk l W rows) (size : Int) (q : Nat) (hq : q < l.length) (hc : ((sy l q : Nat) : Int) < size) (hW : W ≤ 62) (hn : l.length ≤ 100000000) :
    PCalls Try.prog 15 [waveV l.length size rows, .int .i64 (sy l q : Nat), .int .i64 (cN (sy l) (sy l q) q : Nat)] (.int .i64 q) := by
  obtain ⟨c, hcq⟩ : ∃ c, c = sy l q := ⟨_, rfl⟩
  have hcW : c < 2 ^ W := hcq ▸ hw.lt hq
  have hkey : ∀ j, j ≤ W → wK l W j q = cV W c j := fun j hj => by rw [hw.key hj hq, hcq]
  rw [← hcq] at hc ⊢
  obtain ⟨k, hk⟩ : ∃ k, k = cN (sy l) c q := ⟨_, rfl⟩
  have hklt : k < cN (sy l) c l.length := by
    have h1 := cN_mono (sy l) c (show q + 1 ≤ l.length by omega)
    rw [cN, if_pos hcq.symm] at h1
    omega
  have hkW : cN (wK l W W) c q = k := by rw [hw.cnt c (by omega), hk]
  have hcn := cN_le (sy l) c l.length
  rw [← hk]
  have hlen := hw.len
  have hat := fun k => @WOk.at_ _ _ _ hw k
  have hp62 := pow62 hW
  have hbit := fun k hk => bit_spec l.length size rows c k hk (by omega) (by omega)
  have hI := is_spec l.length size rows c
  rw [decide_eq_true (show (0 : Int) ≤ c by omega), decide_eq_true hc] at hI
  have hR := Rank_in hw size c hc hcW l.length hW hn
  rw [show clI l.length l.length = l.length by unfold clI; omega] at hR
  have g1 : ¬ ((k : Int) < 0) := by omega
  have g2 : ¬ ((k : Int) ≥ (cN (sy l) c l.length : Nat)) := by omega
  have hv0 : cV W c 0 = 0 := cV_zero hcW
  have f0 := cL_zero (wK l W 0) l.length
  have f1 := cL0 l W l.length
  have hp1 : ptL l W c 1 = [IV.agg [.int .i64 0, .int .i64 l.length]] := by
    show [ptV l W c 0] = _
    unfold ptV
    rw [hv0, f0, f1]; rfl
  unfold waveV at hI hR hbit
  refine PCalls.of_aw Try.func15 rfl (by unfold Callable; kernel_rfl) (by kernel_rfl) (by simp [Try.ntmps15]) ?_; rw [Try.ntmps15, Try.results15]; (simp (maxSteps := 1000000) (disch := first | exact dq | fail) only [go_sem, waveV])
  (repeat' (first
    | ((first | with_reducible (first | refine aw_seq ?_ | refine aw_region (aops_run ?_)) | (with_reducible refine aw_regionD (fun _ => .p) mixed ?_ (dops_run ?_); (· kernel_rfl)) | (with_reducible refine aw_regionD (fun _ => .r) mixed ?_ (dops_run ?_); (· kernel_rfl)) | with_reducible (first | refine aw_condK ?_ | refine aw_skip ?_ | refine aw_ret ?_ | refine aw_exit ?_ | refine aw_label ?_ | refine aw_block ?_ | refine aw_scope ?_ | refine And.intro ?_ ?_)) <;> (try (simp (maxSteps := 1000000) (disch := first | exact dq | fail) only [go_sem])))
    | (with_reducible (first | refine wantK_split (fun h => ?_) (fun h => ?_) | refine condK_split (fun h => ?_) (fun h => ?_) | refine pickV_split (fun h => ?_) (fun h => ?_)) <;> (try (simp (maxSteps := 1000000) (disch := first | exact dq | fail) only [go_sem] at h)) <;> (try (simp (maxSteps := 1000000) (disch := first | exact dq | fail) only [go_sem, h])))))
  ((first | with_reducible apply left_callf | with_reducible apply leftD_callf | with_reducible apply leftF_callf); (· with_reducible rfl); (· (simp (maxSteps := 1000000) (disch := first | exact dq | fail) only [go_sem]) <;> rfl); (· exact hI); try (simp (maxSteps := 1000000) (disch := first | exact dq | fail) only [go_sem]))
  (repeat' (first
    | ((first | with_reducible (first | refine aw_seq ?_ | refine aw_region (aops_run ?_)) | (with_reducible refine aw_regionD (fun _ => .p) mixed ?_ (dops_run ?_); (· kernel_rfl)) | (with_reducible refine aw_regionD (fun _ => .r) mixed ?_ (dops_run ?_); (· kernel_rfl)) | with_reducible (first | refine aw_condK ?_ | refine aw_skip ?_ | refine aw_ret ?_ | refine aw_exit ?_ | refine aw_label ?_ | refine aw_block ?_ | refine aw_scope ?_ | refine And.intro ?_ ?_)) <;> (try (simp (maxSteps := 1000000) (disch := first | exact dq | fail) only [go_sem, g1, decide_false])))
    | (with_reducible (first | refine wantK_split (fun h => ?_) (fun h => ?_) | refine condK_split (fun h => ?_) (fun h => ?_) | refine pickV_split (fun h => ?_) (fun h => ?_)) <;> (try (simp (maxSteps := 1000000) (disch := first | exact dq | fail) only [go_sem] at h)) <;> (try (simp (maxSteps := 1000000) (disch := first | exact dq | fail) only [go_sem, h, g1, decide_false])))))
  all_goals (try omega)
  ((first | with_reducible apply left_callf | with_reducible apply leftD_callf | with_reducible apply leftF_callf); (· with_reducible rfl); (· (simp (maxSteps := 1000000) (disch := first | exact dq | fail) only [go_sem]) <;> rfl); (· exact hR); try (simp (maxSteps := 1000000) (disch := first | exact dq | fail) only [go_sem]))
  (repeat' (first
    | ((first | with_reducible (first | refine aw_seq ?_ | refine aw_region (aops_run ?_)) | (with_reducible refine aw_regionD (fun _ => .p) mixed ?_ (dops_run ?_); (· kernel_rfl)) | (with_reducible refine aw_regionD (fun _ => .r) mixed ?_ (dops_run ?_); (· kernel_rfl)) | with_reducible (first | refine aw_condK ?_ | refine aw_skip ?_ | refine aw_ret ?_ | refine aw_exit ?_ | refine aw_label ?_ | refine aw_block ?_ | refine aw_scope ?_ | refine And.intro ?_ ?_)) <;> (try (simp (maxSteps := 1000000) (disch := first | exact dq | fail) only [go_sem, g2, decide_false])))
    | (with_reducible (first | refine wantK_split (fun h => ?_) (fun h => ?_) | refine condK_split (fun h => ?_) (fun h => ?_) | refine pickV_split (fun h => ?_) (fun h => ?_)) <;> (try (simp (maxSteps := 1000000) (disch := first | exact dq | fail) only [go_sem] at h)) <;> (try (simp (maxSteps := 1000000) (disch := first | exact dq | fail) only [go_sem, h, g2, decide_false])))))
  all_goals (try omega)
  refine aw_postE (β := Unit) (fun _ => ⟨106, sl [(2, .iv (.int .i64 k)), (3, .mp 0 0), (4, .mp 1 0), (7, .mp 2 0)],
      [.var 29 [.iv (.int .i64 l.length), .iv (.int .i64 size), .iv (.sl 7 (rows.map rankV))], .var 3 [.iv (.int .i64 c)], .var 77 [.msl 3 0 (W + 1) (W + 1)], .row true 74 2 (ptL l W c (W + 1))], 0⟩)
    (fun _ => True) ?_ ?_
  · refine aw_loop (α := Nat) (fun i => ⟨106, sl [(2, .iv (.int .i64 k)), (3, .mp 0 0), (4, .mp 1 0), (7, .mp 2 0), (37, .iv (.sl 7 (rows.map rankV))), (38, .iv (.int .i64 W)), (39, .iv (.int .i64 i))],
      [.var 29 [.iv (.int .i64 l.length), .iv (.int .i64 size), .iv (.sl 7 (rows.map rankV))], .var 3 [.iv (.int .i64 c)], .var 77 [.msl 3 0 (i + 1) (i + 1)], .row true 74 2 (ptL l W c (i + 1))], 0⟩)
      (fun i => i ≤ W) (fun i => W - i) 0 (wk_by [0, 1, 3, 2] ?_) (by omega) ?_
    · (simp (maxSteps := 1000000) (disch := first | exact dq | fail) only [go_sem, hlen])
      rw [hp1]
    rintro i hi
    have hpl := ptL_len l W c (i + 1)
    have hpg := ptL_get l W c (show i < i + 1 by omega)
    have hps := ptL_succ l W c (i + 1)
    unfold ptV at hpg
    by_cases h : i < W
    · have hcond : (i : Int) < W := by omega
      have hB := hat i h
      have hb := hbit i (by omega)
      obtain ⟨β, hβ⟩ : ∃ β : Bool, c / 2 ^ (W - 1 - i) % 2 = b01 β := ⟨decide (c / 2 ^ (W - 1 - i) % 2 = 1), by
        by_cases e : c / 2 ^ (W - 1 - i) % 2 = 1
        · rw [decide_eq_true e, e]; rfl
        · rw [decide_eq_false e]; show _ = 0; omega⟩
      have hvs := cV_succ (c := c) h
      rw [hlen, hβ, ← bI_nat] at hb
      rw [hβ] at hvs
      have hD := down_spec (wK l W i) (bitN W (sy l) i) l.length (cV W c i) β hn
      have hnk : nxtK (wK l W i) (bitN W (sy l) i) = wK l W (i + 1) := rfl
      rw [← hvs, hnk] at hD
      unfold prt partV at hD
      have hpn : ptV l W c (i + 1) = IV.agg [.int .i64 (cL (wK l W (i + 1)) (cV W c (i + 1)) l.length), .int .i64 (cL (wK l W (i + 1)) (cV W c (i + 1) + 1) l.length)] := rfl
      generalize rowK (wK l W i) (bitN W (sy l) i) l.length = B at *
      generalize bI β = bt at *
      (repeat' (first
    | ((first | with_reducible (first | refine aw_seq ?_ | refine aw_region (aops_run ?_)) | (with_reducible refine aw_regionD cwF mixed ?_ (dops_runF ?_); (· kernel_rfl)) | with_reducible (first | refine aw_condK ?_ | refine aw_skip ?_ | refine aw_ret ?_ | refine aw_exit ?_ | refine aw_label ?_ | refine aw_block ?_ | refine aw_scope ?_ | refine And.intro ?_ ?_)) <;> (try (simp (maxSteps := 1000000) (disch := first | exact dq | fail) only [go_sem, hcond, hB, hpg, hpl, decide_true])))
    | (with_reducible (first | refine wantK_split (fun h => ?_) (fun h => ?_) | refine condK_split (fun h => ?_) (fun h => ?_) | refine pickV_split (fun h => ?_) (fun h => ?_)) <;> (try (simp (maxSteps := 1000000) (disch := first | exact dq | fail) only [go_sem] at h)) <;> (try (simp (maxSteps := 1000000) (disch := first | exact dq | fail) only [go_sem, h, hcond, hB, hpg, hpl, decide_true])))))
      all_goals (try omega)
      ((first | with_reducible apply left_callf | with_reducible apply leftD_callf | with_reducible apply leftF_callf); (· with_reducible rfl); (· (simp (maxSteps := 1000000) (disch := first | exact dq | fail) only [go_sem]) <;> rfl); (· exact hb); try (simp (maxSteps := 1000000) (disch := first | exact dq | fail) only [go_sem]))
      (repeat' (first
    | ((first | with_reducible (first | refine aw_seq ?_ | refine aw_region (aops_run ?_)) | (with_reducible refine aw_regionD (fun _ => .p) mixed ?_ (dops_run ?_); (· kernel_rfl)) | (with_reducible refine aw_regionD (fun _ => .r) mixed ?_ (dops_run ?_); (· kernel_rfl)) | with_reducible (first | refine aw_condK ?_ | refine aw_skip ?_ | refine aw_ret ?_ | refine aw_exit ?_ | refine aw_label ?_ | refine aw_block ?_ | refine aw_scope ?_ | refine And.intro ?_ ?_)) <;> (try (simp (maxSteps := 1000000) (disch := first | exact dq | fail) only [go_sem])))
    | (with_reducible (first | refine wantK_split (fun h => ?_) (fun h => ?_) | refine condK_split (fun h => ?_) (fun h => ?_) | refine pickV_split (fun h => ?_) (fun h => ?_)) <;> (try (simp (maxSteps := 1000000) (disch := first | exact dq | fail) only [go_sem] at h)) <;> (try (simp (maxSteps := 1000000) (disch := first | exact dq | fail) only [go_sem, h])))))
      ((first | with_reducible apply left_callf | with_reducible apply leftD_callf | with_reducible apply leftF_callf); (· with_reducible rfl); (· (simp (maxSteps := 1000000) (disch := first | exact dq | fail) only [go_sem]) <;> rfl); (· exact hD); try (simp (maxSteps := 1000000) (disch := first | exact dq | fail) only [go_sem]))
      (simp (maxSteps := 1000000) (disch := first | exact dq | fail) only [go_sem, hpl, eq_self, if_true])
      refine ⟨by omega, ?_⟩
      (repeat' (first
    | ((first | with_reducible (first | refine aw_seq ?_ | refine aw_region (aops_run ?_)) | (with_reducible refine aw_regionD (fun _ => .p) mixed ?_ (dops_run ?_); (· kernel_rfl)) | (with_reducible refine aw_regionD (fun _ => .r) mixed ?_ (dops_run ?_); (· kernel_rfl)) | with_reducible (first | refine aw_condK ?_ | refine aw_skip ?_ | refine aw_ret ?_ | refine aw_exit ?_ | refine aw_label ?_ | refine aw_block ?_ | refine aw_scope ?_ | refine And.intro ?_ ?_)) <;> (try (simp (maxSteps := 1000000) (disch := first | exact dq | fail) only [go_sem])))
    | (with_reducible (first | refine wantK_split (fun h => ?_) (fun h => ?_) | refine condK_split (fun h => ?_) (fun h => ?_) | refine pickV_split (fun h => ?_) (fun h => ?_)) <;> (try (simp (maxSteps := 1000000) (disch := first | exact dq | fail) only [go_sem] at h)) <;> (try (simp (maxSteps := 1000000) (disch := first | exact dq | fail) only [go_sem, h])))))
      refine ⟨i + 1, by omega, wk_by [0, 1, 2, 3] ?_, by omega⟩
      (simp (maxSteps := 1000000) (disch := first | exact dq | fail) only [go_sem, hps, hpn])
    · obtain rfl : i = W := by omega
      have hcond : ¬ ((i : Int) < i) := by omega
      (repeat' (first
    | ((first | with_reducible (first | refine aw_seq ?_ | refine aw_region (aops_run ?_)) | (with_reducible refine aw_regionD (fun _ => .p) mixed ?_ (dops_run ?_); (· kernel_rfl)) | (with_reducible refine aw_regionD (fun _ => .r) mixed ?_ (dops_run ?_); (· kernel_rfl)) | with_reducible (first | refine aw_condK ?_ | refine aw_skip ?_ | refine aw_ret ?_ | refine aw_exit ?_ | refine aw_label ?_ | refine aw_block ?_ | refine aw_scope ?_ | refine And.intro ?_ ?_)) <;> (try (simp (maxSteps := 1000000) (disch := first | exact dq | fail) only [go_sem, hcond, decide_false])))
    | (with_reducible (first | refine wantK_split (fun h => ?_) (fun h => ?_) | refine condK_split (fun h => ?_) (fun h => ?_) | refine pickV_split (fun h => ?_) (fun h => ?_)) <;> (try (simp (maxSteps := 1000000) (disch := first | exact dq | fail) only [go_sem] at h)) <;> (try (simp (maxSteps := 1000000) (disch := first | exact dq | fail) only [go_sem, h, hcond, decide_false])))))
      all_goals (try omega)
      refine ⟨(), wk_by [0, 1, 2, 3] ?_⟩
      (simp (maxSteps := 1000000) (disch := first | exact dq | fail) only [go_sem])
  · rintro _ _
    obtain ⟨A, hA⟩ : ∃ A : Nat → Nat, A = fun i => posK (wK l W (W - i)) l.length q := ⟨_, rfl⟩
    have hA0 : cL (wK l W W) c l.length + k = A 0 := by
      rw [hA]
      show _ = cL (wK l W W) (wK l W W q) l.length + cN (wK l W W) (wK l W W q) q
      rw [hkey W (Nat.le_refl _), cV_all, hkW]
    have hAW : A W = q := by
      rw [hA]
      show posK (wK l W (W - W)) l.length q = q
      rw [Nat.sub_self]
      show cL (wK l W 0) 0 l.length + cN (wK l W 0) 0 q = q
      rw [f0, cN0, Nat.zero_add]
    have hAle : ∀ i, A i < l.length := fun i => by rw [hA]; exact posK_lt _ hq
    have hpl := ptL_len l W c (W + 1)
    have hpg := fun j hj => @ptL_get l W c (W + 1) j hj
    have hpW := hpg W (by omega)
    unfold ptV at hpW hpg
    rw [cV_all] at hpW
    have hat0 : (cL (wK l W W) c l.length : Int) + k = (A 0 : Nat) := by omega
    have hrl : (rows.map rankV).length = W := by rw [List.length_map, hlen]
    have hcle := cL_le (wK l W W) c l.length
    (repeat' (first
    | ((first | with_reducible (first | refine aw_seq ?_ | refine aw_region (aops_run ?_)) | (with_reducible refine aw_regionD (fun _ => .p) mixed ?_ (dops_run ?_); (· kernel_rfl)) | (with_reducible refine aw_regionD (fun _ => .r) mixed ?_ (dops_run ?_); (· kernel_rfl)) | with_reducible (first | refine aw_condK ?_ | refine aw_skip ?_ | refine aw_ret ?_ | refine aw_exit ?_ | refine aw_label ?_ | refine aw_block ?_ | refine aw_scope ?_ | refine And.intro ?_ ?_)) <;> (try (simp (maxSteps := 1000000) (disch := first | exact dq | fail) only [go_sem, hpl, hpW, hlen, hat0])))
    | (with_reducible (first | refine wantK_split (fun h => ?_) (fun h => ?_) | refine condK_split (fun h => ?_) (fun h => ?_) | refine pickV_split (fun h => ?_) (fun h => ?_)) <;> (try (simp (maxSteps := 1000000) (disch := first | exact dq | fail) only [go_sem] at h)) <;> (try (simp (maxSteps := 1000000) (disch := first | exact dq | fail) only [go_sem, h, hpl, hpW, hlen, hat0])))))
    all_goals (try omega)
    ((first | with_reducible refine left_callMs [] (BackwardR_M (rows.map rankV)) ?_ ?_ | with_reducible refine leftD_callMs [] rfl (BackwardR_M (rows.map rankV)) ?_ ?_ | with_reducible refine leftD_callRs [] (by decide) (BackwardR_M (rows.map rankV)) ?_ ?_); (· (simp (maxSteps := 1000000) (disch := first | exact dq | fail) only [go_sem])); try (simp (maxSteps := 1000000) (disch := first | exact dq | fail) only [go_sem]))
    (repeat' (first
    | ((first | with_reducible (first | refine aw_seq ?_ | refine aw_region (aops_run ?_)) | (with_reducible refine aw_regionD (fun _ => .p) mixed ?_ (dops_run ?_); (· kernel_rfl)) | (with_reducible refine aw_regionD (fun _ => .r) mixed ?_ (dops_run ?_); (· kernel_rfl)) | with_reducible (first | refine aw_condK ?_ | refine aw_skip ?_ | refine aw_ret ?_ | refine aw_exit ?_ | refine aw_label ?_ | refine aw_block ?_ | refine aw_scope ?_ | refine And.intro ?_ ?_)) <;> (try (simp (maxSteps := 1000000) (disch := first | exact dq | fail) only [go_sem])))
    | (with_reducible (first | refine wantK_split (fun h => ?_) (fun h => ?_) | refine condK_split (fun h => ?_) (fun h => ?_) | refine pickV_split (fun h => ?_) (fun h => ?_)) <;> (try (simp (maxSteps := 1000000) (disch := first | exact dq | fail) only [go_sem] at h)) <;> (try (simp (maxSteps := 1000000) (disch := first | exact dq | fail) only [go_sem, h])))))
    refine aw_rangeFunc (gf := 68) (caps := [.mp 5 0]) (backR (rows.map rankV)) [0, 1, 2, 3, 4]
      (fun i => [.var 29 [.iv (.int .i64 l.length), .iv (.int .i64 size), .iv (.sl 7 (rows.map rankV))], .var 3 [.iv (.int .i64 c)], .var 77 [.msl 3 0 (W + 1) (W + 1)], .row true 74 2 (ptL l W c (W + 1)), .var 3 [.iv (.int .i64 (A i))]])
      (sl [(3, .mp 0 0), (4, .mp 1 0), (7, .mp 2 0), (10, .mp 4 0)]) ?_ (backR_iter rfl (by decide) ?_ ?_) ?_ ?_ ?_ ?_ ?_ ?_ ?_ ?_
    · (simp (maxSteps := 1000000) (disch := first | exact dq | fail) only [go_sem])
    · intro x hx
      obtain ⟨B, _, rfl⟩ := List.mem_map.1 hx
      exact ⟨B, rfl⟩
    · rw [hrl]; omega
    · exact Part.ofR rfl ⟨rfl, rfl, rfl, rfl, rfl, trivial⟩
    · intro i hi
      exact absurd hi (Nat.not_lt_zero _)
    · intro i
      by_cases e : i = 3 ∨ i = 4 ∨ i = 7 ∨ i = 10
      · rcases e with rfl | rfl | rfl | rfl <;> (right; rfl)
      · left; simp only [not_or] at e; simp [sl, upd, e]
    · intro o ho
      simp only [List.mem_cons, List.not_mem_nil, or_false] at ho
      rcases ho with rfl | rfl | rfl | rfl | rfl <;> rfl
    · intro p hp
      simp only [List.mem_cons, List.not_mem_nil, or_false] at hp
      rcases hp with rfl | rfl
      · show (70 : Nat) < 106; decide
      · show (71 : Nat) < 106; decide
    · intro y hy
      unfold backR at hy
      obtain ⟨i, _, rfl⟩ := List.mem_map.1 hy
      rfl
    · intro i y hy
      have hi : i < W := by have := lt_of_get hy; rwa [backR_len, hrl] at this
      rw [backR_get (by rw [hrl]; exact hi), hrl] at hy
      obtain ⟨j, hj⟩ : ∃ j, j = W - 1 - i := ⟨_, rfl⟩
      have hjW : j < W := by omega
      have e1 : (W : Int) - 1 - i = (j : Int) := by omega
      rw [← hj, e1, List.getElem?_map, hat j hjW] at hy
      cases hy
      have hAi : A i = posK (wK l W (j + 1)) l.length q := by rw [hA, hj]; show posK (wK l W (W - i)) _ _ = _; rw [show W - 1 - i + 1 = W - i by omega]
      have hAs : A (i + 1) = posK (wK l W j) l.length q := by rw [hA, hj]; show posK (wK l W (W - (i + 1))) _ _ = _; rw [show W - 1 - i = W - (i + 1) by omega]
      have hb := hbit j (by omega)
      have hsel := sel_row (K := wK l W j) (b := bitN W (sy l) j) hq
      have hnk : nxtK (wK l W j) (bitN W (sy l) j) = wK l W (j + 1) := rfl
      rw [hnk, hkey j (by omega), hkey (j + 1) (by omega), ← hAs] at hsel
      have hpos : A i = cL (wK l W (j + 1)) (cV W c (j + 1)) l.length + cN (wK l W (j + 1)) (cV W c (j + 1)) q := by
        rw [hAi, ← hkey (j + 1) (by omega)]; rfl
      have hbq : c / 2 ^ (W - 1 - j) % 2 = b01 (bitN W (sy l) j q) := by
        unfold bitN
        rw [← hcq]
        by_cases e : c / 2 ^ (W - 1 - j) % 2 = 1
        · rw [decide_eq_true e, e]; rfl
        · rw [decide_eq_false e]; show _ = 0; omega
      rw [hlen, hbq, ← bI_nat] at hb
      have hg0 := hpg j (by omega)
      have hg1 := hpg (j + 1) (by omega)
      have ham : ((A i : Nat) : Int) - (cL (wK l W (j + 1)) (cV W c (j + 1)) l.length : Nat) = (cN (wK l W (j + 1)) (cV W c (j + 1)) q : Nat) := by omega
      have hbl := rowK_len (wK l W j) (bitN W (sy l) j) l.length
      have hR0 := Rank0_spec (rowK (wK l W j) (bitN W (sy l) j) l.length) (cL (wK l W j) (cV W c j) l.length) (by omega)
      have hR1 := Rank1_spec (rowK (wK l W j) (bitN W (sy l) j) l.length) (cL (wK l W j) (cV W c j) l.length) (by omega)
      rw [Int.toNat_natCast] at hR0 hR1
      rw [← cntB_true] at hR1
      have hS0 := Select0_spec (rowK (wK l W j) (bitN W (sy l) j) l.length) ((cntB (rowK (wK l W j) (bitN W (sy l) j) l.length) (bitN W (sy l) j q) (cL (wK l W j) (cV W c j) l.length) + cN (wK l W (j + 1)) (cV W c (j + 1)) q : Nat) : Int) (by omega)
      have hS1 := Select1_spec (rowK (wK l W j) (bitN W (sy l) j) l.length) ((cntB (rowK (wK l W j) (bitN W (sy l) j) l.length) (bitN W (sy l) j q) (cL (wK l W j) (cV W c j) l.length) + cN (wK l W (j + 1)) (cV W c (j + 1)) q : Nat) : Int) (by omega)
      have hA1 := hAle (i + 1)
      have hcn1 := cN_le (wK l W (j + 1)) (cV W c (j + 1)) q
      have hcl0 := cL_le (wK l W j) (cV W c j) l.length
      have hcb := fun β => cntB_le (rowK (wK l W j) (bitN W (sy l) j) l.length) β (cL (wK l W j) (cV W c j) l.length)
      have hAli := hAle i
      generalize rowK (wK l W j) (bitN W (sy l) j) l.length = B at *
      clear hAi hAs hpos hbq hnk
      generalize cN (wK l W (j + 1)) (cV W c (j + 1)) q = am at *
      have hj1 : ((j : Int) + 1).toNat = j + 1 := by omega
      cases hβ : bitN W (sy l) j q with
      | false =>
        rw [hβ] at hb hsel hS0
        have hc1 := hcb false
        rw [hsel, Int.natCast_add] at hS0
        have e0 : bI false = 0 := rfl
        rw [e0] at hb
        change aw _ _ _ ⟨106, upd (upd (sl [(3, .mp 0 0), (4, .mp 1 0), (7, .mp 2 0), (10, .mp 4 0)]) 70 (.iv (.int .i64 _))) 71 (.iv (rankV B)), [.var 29 [.iv (.int .i64 l.length), .iv (.int .i64 size), .iv (.sl 7 (rows.map rankV))], .var 3 [.iv (.int .i64 c)], .var 77 [.msl 3 0 (W + 1) (W + 1)], .row true 74 2 (ptL l W c (W + 1)), .var 3 [.iv (.int .i64 (A i))]], 5⟩
        (repeat' (first
    | ((first | with_reducible (first | refine aw_seq ?_ | refine aw_region (aops_run ?_)) | (with_reducible refine aw_regionD (fun _ => .p) mixed ?_ (dops_run ?_); (· kernel_rfl)) | (with_reducible refine aw_regionD (fun _ => .r) mixed ?_ (dops_run ?_); (· kernel_rfl)) | with_reducible (first | refine aw_condK ?_ | refine aw_skip ?_ | refine aw_ret ?_ | refine aw_exit ?_ | refine aw_label ?_ | refine aw_block ?_ | refine aw_scope ?_ | refine And.intro ?_ ?_)) <;> (try (simp (maxSteps := 1000000) (disch := first | exact dq | fail) only [go_sem, hg0, hg1, hpl, hj1, ham])))
    | (with_reducible (first | refine wantK_split (fun h => ?_) (fun h => ?_) | refine condK_split (fun h => ?_) (fun h => ?_) | refine pickV_split (fun h => ?_) (fun h => ?_)) <;> (try (simp (maxSteps := 1000000) (disch := first | exact dq | fail) only [go_sem] at h)) <;> (try (simp (maxSteps := 1000000) (disch := first | exact dq | fail) only [go_sem, h, hg0, hg1, hpl, hj1, ham])))))
        all_goals (try omega)
        ((first | with_reducible apply left_callf | with_reducible apply leftD_callf | with_reducible apply leftF_callf); (· with_reducible rfl); (· (simp (maxSteps := 1000000) (disch := first | exact dq | fail) only [go_sem]) <;> rfl); (· exact hb); try (simp (maxSteps := 1000000) (disch := first | exact dq | fail) only [go_sem]))
        (repeat' (first
    | ((first | with_reducible (first | refine aw_seq ?_ | refine aw_region (aops_run ?_)) | (with_reducible refine aw_regionD (fun _ => .p) mixed ?_ (dops_run ?_); (· kernel_rfl)) | (with_reducible refine aw_regionD (fun _ => .r) mixed ?_ (dops_run ?_); (· kernel_rfl)) | with_reducible (first | refine aw_condK ?_ | refine aw_skip ?_ | refine aw_ret ?_ | refine aw_exit ?_ | refine aw_label ?_ | refine aw_block ?_ | refine aw_scope ?_ | refine And.intro ?_ ?_)) <;> (try (simp (maxSteps := 1000000) (disch := first | exact dq | fail) only [go_sem])))
    | (with_reducible (first | refine wantK_split (fun h => ?_) (fun h => ?_) | refine condK_split (fun h => ?_) (fun h => ?_) | refine pickV_split (fun h => ?_) (fun h => ?_)) <;> (try (simp (maxSteps := 1000000) (disch := first | exact dq | fail) only [go_sem] at h)) <;> (try (simp (maxSteps := 1000000) (disch := first | exact dq | fail) only [go_sem, h])))))
        ((first | with_reducible apply left_callf | with_reducible apply leftD_callf | with_reducible apply leftF_callf); (· with_reducible rfl); (· (simp (maxSteps := 1000000) (disch := first | exact dq | fail) only [go_sem]) <;> rfl); (· exact hR0); try (simp (maxSteps := 1000000) (disch := first | exact dq | fail) only [go_sem]))
        (repeat' (first
    | ((first | with_reducible (first | refine aw_seq ?_ | refine aw_region (aops_run ?_)) | (with_reducible refine aw_regionD (fun _ => .p) mixed ?_ (dops_run ?_); (· kernel_rfl)) | (with_reducible refine aw_regionD (fun _ => .r) mixed ?_ (dops_run ?_); (· kernel_rfl)) | with_reducible (first | refine aw_condK ?_ | refine aw_skip ?_ | refine aw_ret ?_ | refine aw_exit ?_ | refine aw_label ?_ | refine aw_block ?_ | refine aw_scope ?_ | refine And.intro ?_ ?_)) <;> (try (simp (maxSteps := 1000000) (disch := first | exact dq | fail) only [go_sem])))
    | (with_reducible (first | refine wantK_split (fun h => ?_) (fun h => ?_) | refine condK_split (fun h => ?_) (fun h => ?_) | refine pickV_split (fun h => ?_) (fun h => ?_)) <;> (try (simp (maxSteps := 1000000) (disch := first | exact dq | fail) only [go_sem] at h)) <;> (try (simp (maxSteps := 1000000) (disch := first | exact dq | fail) only [go_sem, h])))))
        all_goals (try omega)
        ((first | with_reducible apply left_callf | with_reducible apply leftD_callf | with_reducible apply leftF_callf); (· with_reducible rfl); (· (simp (maxSteps := 1000000) (disch := first | exact dq | fail) only [go_sem]) <;> rfl); (· exact hS0); try (simp (maxSteps := 1000000) (disch := first | exact dq | fail) only [go_sem]))
        (repeat' (first
    | ((first | with_reducible (first | refine aw_seq ?_ | refine aw_region (aops_run ?_)) | (with_reducible refine aw_regionD (fun _ => .p) mixed ?_ (dops_run ?_); (· kernel_rfl)) | (with_reducible refine aw_regionD (fun _ => .r) mixed ?_ (dops_run ?_); (· kernel_rfl)) | with_reducible (first | refine aw_condK ?_ | refine aw_skip ?_ | refine aw_ret ?_ | refine aw_exit ?_ | refine aw_label ?_ | refine aw_block ?_ | refine aw_scope ?_ | refine And.intro ?_ ?_)) <;> (try (simp (maxSteps := 1000000) (disch := first | exact dq | fail) only [go_sem])))
    | (with_reducible (first | refine wantK_split (fun h => ?_) (fun h => ?_) | refine condK_split (fun h => ?_) (fun h => ?_) | refine pickV_split (fun h => ?_) (fun h => ?_)) <;> (try (simp (maxSteps := 1000000) (disch := first | exact dq | fail) only [go_sem] at h)) <;> (try (simp (maxSteps := 1000000) (disch := first | exact dq | fail) only [go_sem, h])))))
        refine (show Wk _ ⟨106, sl [], _, 5⟩ from wk_by [0, 1, 2, 3, 4] ?_)
        (simp (maxSteps := 1000000) (disch := first | exact dq | fail) only [go_sem])
      | true =>
        rw [hβ] at hb hsel hS1
        have hc1 := hcb true
        rw [hsel, Int.natCast_add] at hS1
        have e0 : bI true = 1 := rfl
        rw [e0] at hb
        change aw _ _ _ ⟨106, upd (upd (sl [(3, .mp 0 0), (4, .mp 1 0), (7, .mp 2 0), (10, .mp 4 0)]) 70 (.iv (.int .i64 _))) 71 (.iv (rankV B)), [.var 29 [.iv (.int .i64 l.length), .iv (.int .i64 size), .iv (.sl 7 (rows.map rankV))], .var 3 [.iv (.int .i64 c)], .var 77 [.msl 3 0 (W + 1) (W + 1)], .row true 74 2 (ptL l W c (W + 1)), .var 3 [.iv (.int .i64 (A i))]], 5⟩
        (repeat' (first
    | ((first | with_reducible (first | refine aw_seq ?_ | refine aw_region (aops_run ?_)) | (with_reducible refine aw_regionD (fun _ => .p) mixed ?_ (dops_run ?_); (· kernel_rfl)) | (with_reducible refine aw_regionD (fun _ => .r) mixed ?_ (dops_run ?_); (· kernel_rfl)) | with_reducible (first | refine aw_condK ?_ | refine aw_skip ?_ | refine aw_ret ?_ | refine aw_exit ?_ | refine aw_label ?_ | refine aw_block ?_ | refine aw_scope ?_ | refine And.intro ?_ ?_)) <;> (try (simp (maxSteps := 1000000) (disch := first | exact dq | fail) only [go_sem, hg0, hg1, hpl, hj1, ham])))
    | (with_reducible (first | refine wantK_split (fun h => ?_) (fun h => ?_) | refine condK_split (fun h => ?_) (fun h => ?_) | refine pickV_split (fun h => ?_) (fun h => ?_)) <;> (try (simp (maxSteps := 1000000) (disch := first | exact dq | fail) only [go_sem] at h)) <;> (try (simp (maxSteps := 1000000) (disch := first | exact dq | fail) only [go_sem, h, hg0, hg1, hpl, hj1, ham])))))
        all_goals (try omega)
        ((first | with_reducible apply left_callf | with_reducible apply leftD_callf | with_reducible apply leftF_callf); (· with_reducible rfl); (· (simp (maxSteps := 1000000) (disch := first | exact dq | fail) only [go_sem]) <;> rfl); (· exact hb); try (simp (maxSteps := 1000000) (disch := first | exact dq | fail) only [go_sem]))
        (repeat' (first
    | ((first | with_reducible (first | refine aw_seq ?_ | refine aw_region (aops_run ?_)) | (with_reducible refine aw_regionD (fun _ => .p) mixed ?_ (dops_run ?_); (· kernel_rfl)) | (with_reducible refine aw_regionD (fun _ => .r) mixed ?_ (dops_run ?_); (· kernel_rfl)) | with_reducible (first | refine aw_condK ?_ | refine aw_skip ?_ | refine aw_ret ?_ | refine aw_exit ?_ | refine aw_label ?_ | refine aw_block ?_ | refine aw_scope ?_ | refine And.intro ?_ ?_)) <;> (try (simp (maxSteps := 1000000) (disch := first | exact dq | fail) only [go_sem])))
    | (with_reducible (first | refine wantK_split (fun h => ?_) (fun h => ?_) | refine condK_split (fun h => ?_) (fun h => ?_) | refine pickV_split (fun h => ?_) (fun h => ?_)) <;> (try (simp (maxSteps := 1000000) (disch := first | exact dq | fail) only [go_sem] at h)) <;> (try (simp (maxSteps := 1000000) (disch := first | exact dq | fail) only [go_sem, h])))))
        ((first | with_reducible apply left_callf | with_reducible apply leftD_callf | with_reducible apply leftF_callf); (· with_reducible rfl); (· (simp (maxSteps := 1000000) (disch := first | exact dq | fail) only [go_sem]) <;> rfl); (· exact hR1); try (simp (maxSteps := 1000000) (disch := first | exact dq | fail) only [go_sem]))
        (repeat' (first
    | ((first | with_reducible (first | refine aw_seq ?_ | refine aw_region (aops_run ?_)) | (with_reducible refine aw_regionD (fun _ => .p) mixed ?_ (dops_run ?_); (· kernel_rfl)) | (with_reducible refine aw_regionD (fun _ => .r) mixed ?_ (dops_run ?_); (· kernel_rfl)) | with_reducible (first | refine aw_condK ?_ | refine aw_skip ?_ | refine aw_ret ?_ | refine aw_exit ?_ | refine aw_label ?_ | refine aw_block ?_ | refine aw_scope ?_ | refine And.intro ?_ ?_)) <;> (try (simp (maxSteps := 1000000) (disch := first | exact dq | fail) only [go_sem])))
    | (with_reducible (first | refine wantK_split (fun h => ?_) (fun h => ?_) | refine condK_split (fun h => ?_) (fun h => ?_) | refine pickV_split (fun h => ?_) (fun h => ?_)) <;> (try (simp (maxSteps := 1000000) (disch := first | exact dq | fail) only [go_sem] at h)) <;> (try (simp (maxSteps := 1000000) (disch := first | exact dq | fail) only [go_sem, h])))))
        all_goals (try omega)
        ((first | with_reducible apply left_callf | with_reducible apply leftD_callf | with_reducible apply leftF_callf); (· with_reducible rfl); (· (simp (maxSteps := 1000000) (disch := first | exact dq | fail) only [go_sem]) <;> rfl); (· exact hS1); try (simp (maxSteps := 1000000) (disch := first | exact dq | fail) only [go_sem]))
        (repeat' (first
    | ((first | with_reducible (first | refine aw_seq ?_ | refine aw_region (aops_run ?_)) | (with_reducible refine aw_regionD (fun _ => .p) mixed ?_ (dops_run ?_); (· kernel_rfl)) | (with_reducible refine aw_regionD (fun _ => .r) mixed ?_ (dops_run ?_); (· kernel_rfl)) | with_reducible (first | refine aw_condK ?_ | refine aw_skip ?_ | refine aw_ret ?_ | refine aw_exit ?_ | refine aw_label ?_ | refine aw_block ?_ | refine aw_scope ?_ | refine And.intro ?_ ?_)) <;> (try (simp (maxSteps := 1000000) (disch := first | exact dq | fail) only [go_sem])))
    | (with_reducible (first | refine wantK_split (fun h => ?_) (fun h => ?_) | refine condK_split (fun h => ?_) (fun h => ?_) | refine pickV_split (fun h => ?_) (fun h => ?_)) <;> (try (simp (maxSteps := 1000000) (disch := first | exact dq | fail) only [go_sem] at h)) <;> (try (simp (maxSteps := 1000000) (disch := first | exact dq | fail) only [go_sem, h])))))
        refine (show Wk _ ⟨106, sl [], _, 5⟩ from wk_by [0, 1, 2, 3, 4] ?_)
        (simp (maxSteps := 1000000) (disch := first | exact dq | fail) only [go_sem])
    · have hbl2 : (backR (rows.map rankV)).length = W := by rw [backR_len, hrl]
      rw [hbl2]
      show blockQ 2 _ Exit.normal ⟨106, sl [(3, .mp 0 0), (4, .mp 1 0), (7, .mp 2 0), (10, .mp 4 0)], [.var 29 [.iv (.int .i64 l.length), .iv (.int .i64 size), .iv (.sl 7 (rows.map rankV))], .var 3 [.iv (.int .i64 c)], .var 77 [.msl 3 0 (W + 1) (W + 1)], .row true 74 2 (ptL l W c (W + 1)), .var 3 [.iv (.int .i64 (A W))]], 0⟩
      rw [hAW]
      (simp (maxSteps := 1000000) (disch := first | exact dq | fail) only [go_sem])
      (repeat' (first
    | ((first | with_reducible (first | refine aw_seq ?_ | refine aw_region (aops_run ?_)) | (with_reducible refine aw_regionD (fun _ => .p) mixed ?_ (dops_run ?_); (· kernel_rfl)) | (with_reducible refine aw_regionD (fun _ => .r) mixed ?_ (dops_run ?_); (· kernel_rfl)) | with_reducible (first | refine aw_condK ?_ | refine aw_skip ?_ | refine aw_ret ?_ | refine aw_exit ?_ | refine aw_label ?_ | refine aw_block ?_ | refine aw_scope ?_ | refine And.intro ?_ ?_)) <;> (try (simp (maxSteps := 1000000) (disch := first | exact dq | fail) only [go_sem])))
    | (with_reducible (first | refine wantK_split (fun h => ?_) (fun h => ?_) | refine condK_split (fun h => ?_) (fun h => ?_) | refine pickV_split (fun h => ?_) (fun h => ?_)) <;> (try (simp (maxSteps := 1000000) (disch := first | exact dq | fail) only [go_sem] at h)) <;> (try (simp (maxSteps := 1000000) (disch := first | exact dq | fail) only [go_sem, h])))))
end Go.Proofs.Ytkfjldkememadaa.AM
