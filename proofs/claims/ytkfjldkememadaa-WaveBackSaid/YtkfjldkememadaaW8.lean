
/- The law WaveTurns, as a call. No condition. -/
import Derived.Test.YtkfjldkememadaaW6
set_option linter.unusedVariables false
set_option linter.unusedSimpArgs false
set_option maxRecDepth 20000
namespace Go.Proofs.Ytkfjldkememadaa.AM
open Go Go.RowKit

structure Mk (s : Int) (m : List Int) (W : Nat) (rows : List (List Bool)) : Prop where
  ok : WOk m W rows
  pos : 0 < s
  le : s ≤ 32
  len : m.length ≤ 80
  w : W ≤ 17
  sym : ∀ x ∈ m, 0 ≤ x ∧ x < s
  pow : ∀ c : Nat, (c : Int) < s → c < 2 ^ W
  new : PCalls Try.prog 12 [inl m, .int .i64 s] (.tup [waveV m.length s rows, .int .i64 0])
theorem mk_syms (n : Int) (l : List Int) : ∃ W rows, Mk (1 + n % 32) (symsL (1 + n % 32) l) W rows := by
  obtain ⟨s, hs⟩ : ∃ s, s = 1 + n % 32 := ⟨_, rfl⟩
  have hs0 : 0 < s ∧ s ≤ 32 := by omega
  rw [← hs]
  have hml := symsL_len s l
  have hok := symsL_ok hs0.1 l
  generalize symsL s l = m at *
  have hW0 := widN_fits (n := s - 1) (by omega) (by omega) (w := 17) (by decide)
  have hWle : widN (s - 1) ≤ 17 := hW0.2 (by omega)
  have hWf := (widN_fits (n := s - 1) (by omega) (by omega) (w := widN (s - 1)) (by omega)).1 (Nat.le_refl _)
  refine ⟨widN (s - 1), rowsOf m (widN (s - 1)), rowsOf_ok (fun x hx => ?_), hs0.1, hs0.2, by omega, hWle, hok, fun c hc => by omega, New_ok m s (by omega) (by omega) (by omega) hok⟩
  have := hok x hx
  exact ⟨this.1, by omega⟩
theorem sel_ex (K : Nat → Nat) (c : Nat) : ∀ {n k : Nat}, k < cN K c n → ∃ q, q < n ∧ K q = c ∧ cN K c q = k
  | 0, k, h => by simp [cN] at h
  | n + 1, k, h => by
    rw [cN] at h
    by_cases g : k < cN K c n
    · obtain ⟨q, h1, h2, h3⟩ := sel_ex K c g
      exact ⟨q, by omega, h2, h3⟩
    · by_cases e : K n = c
      · rw [if_pos e] at h
        exact ⟨n, by omega, e, by omega⟩
      · rw [if_neg e] at h; omega
theorem cL_full {K : Nat → Nat} {c : Nat} : ∀ {n : Nat}, (∀ i, i < n → K i < c) → cL K c n = n
  | 0, _ => rfl
  | n + 1, h => by rw [cL, cL_full (fun i hi => h i (by omega)), if_pos (h n (by omega))]
theorem sy_lt {m : List Int} {s : Int} (h : ∀ x ∈ m, 0 ≤ x ∧ x < s) {i : Nat} (hi : i < m.length) : ((sy m i : Nat) : Int) < s := by
  have := h _ (getD_mem hi)
  unfold sy; omega
theorem sy_eq {m : List Int} {s : Int} (h : ∀ x ∈ m, 0 ≤ x ∧ x < s) {i : Nat} (hi : i < m.length) : m.getD i 0 = ((sy m i : Nat) : Int) := by
  have := h _ (getD_mem hi)
  unfold sy; omega
set_option maxHeartbeats 4000000 in
theorem WaveTurns_spec (l : List Int) (sz x y z : Int) : PCalls Try.prog 3 [inl l, .int .i64 sz, .agg [.int .i64 x, .int .i64 y, .int .i64 z]] (.bool true) := by
  have hY := symbols_spec l sz
  obtain ⟨W, rows, hM⟩ := mk_syms sz l
  generalize symsL (1 + sz % 32) l = m at *
  generalize 1 + sz % 32 = s at *
  obtain ⟨hw, hs0, hs1, hn, hW, hsym, hpow, hN⟩ := hM
  obtain ⟨S, rfl⟩ : ∃ S : Nat, s = S := ⟨s.toNat, by omega⟩
  have hlt := Int.lt_tmod_of_pos z (show (0 : Int) < (m.length : Int) + 1 by omega)
  have hgt := Int.tmod_lt_of_pos z (show (0 : Int) < (m.length : Int) + 1 by omega)
  obtain ⟨t, ht⟩ : ∃ t : Nat, symI ((m.length : Int) + 1) z = (t : Int) ∧ t ≤ m.length := ⟨(symI ((m.length : Int) + 1) z).toNat, by
    have := symI_ok (show (0 : Int) < (m.length : Int) + 1 by omega) z
    omega, by
    have := symI_ok (show (0 : Int) < (m.length : Int) + 1 by omega) z
    omega⟩
  obtain ⟨ht, htn⟩ := ht
  have hRk : ∀ (c : Nat) (i : Nat), (c : Int) < S → i ≤ m.length → PCalls Try.prog 13 [waveV m.length S rows, .int .i64 c, .int .i64 i] (.int .i64 (cN (sy m) c i : Nat)) := fun c i hc hi => by
    have := Rank_in hw S c hc (hpow c hc) i (by omega) (by omega)
    rwa [show clI m.length i = i by unfold clI; omega] at this
  have hBl : ∀ (c : Nat), c ≤ S → PCalls Try.prog 14 [waveV m.length S rows, .int .i64 c, .int .i64 t] (.int .i64 (cL (sy m) c t : Nat)) := fun c hc => by
    have he := Below_edge m.length S rows c t (by omega)
    rw [show clI m.length t = t by unfold clI; omega] at he
    by_cases h0 : c = 0
    · subst h0; rw [cL_zero]; exact he.1 (by omega)
    · by_cases h1 : c = S
      · subst h1
        rw [cL_full (fun i hi => by have := sy_lt hsym (show i < m.length by omega); omega)]
        exact he.2 (by omega) (by omega)
      · have := Below_in hw S c (by omega) (by omega) (hpow c (by omega)) t (by omega) (by omega)
        rwa [show clI m.length t = t by unfold clI; omega] at this
  have hw2 : IntKind.i64.wrap (z.tmod ((m.length : Int) + 1)) = z.tmod ((m.length : Int) + 1) := wrapS ⟨by omega, by omega⟩
  have hcx := cutS_range (show (0 : Int) < S by omega) x
  have hxl := Int.lt_tmod_of_pos x (show (0 : Int) < S by omega)
  have hxg := Int.tmod_lt_of_pos x (show (0 : Int) < S by omega)
  obtain ⟨c, hc⟩ : ∃ c : Nat, cutS S x = c := ⟨(cutS S x).toNat, by omega⟩
  have hcw := hc
  rw [hc] at hcx
  unfold cutS at hcw
  rw [tmodS (by omega)] at hcw
  have hSo := fun (k : Int) (hk : k < 0 ∨ (cN (sy m) c m.length : Nat) ≤ k) => Select_out1 hw S c (by omega) (hpow c (by omega)) k (by omega) (by omega) hk
  have hSi := fun (q : Nat) (hq : q < m.length) => Select_in hw S q hq (sy_lt hsym hq) (by omega) (by omega)
  have hfull : cL (sy m) S t = t := cL_full (fun i hi => by have := sy_lt hsym (show i < m.length by omega); omega)
  have hcl := fun c => cL_le (sy m) c t
  have hg : ((z.tmod ((m.length : Int) + 1) < 0) = True ∧ 0 - z.tmod ((m.length : Int) + 1) = t) ∨ ((z.tmod ((m.length : Int) + 1) < 0) = False ∧ z.tmod ((m.length : Int) + 1) = t) := by
    unfold symI at ht
    by_cases g : z.tmod ((m.length : Int) + 1) < 0
    · rw [if_pos g] at ht
      exact .inl ⟨eq_true g, by omega⟩
    · rw [if_neg g] at ht
      exact .inr ⟨eq_false g, ht⟩
  have hsyq := fun {q : Nat} (hq : q < m.length) => sy_eq hsym hq
  unfold waveV at *
  rcases hg with ⟨g1, g2⟩ | ⟨g1, g2⟩
  all_goals (
    refine PCalls.of_aw Try.func3 rfl (by unfold Callable; kernel_rfl) (by kernel_rfl) (by simp [Try.ntmps3]) ?_; rw [Try.ntmps3, Try.results3]; (simp (maxSteps := 1000000) (disch := first | exact dq | fail) only [go_sem])
    (repeat' (first
    | ((first | with_reducible (first | refine aw_seq ?_ | refine aw_region (aops_run ?_)) | (with_reducible refine aw_regionD (fun _ => .p) mixed ?_ (dops_run ?_); (· kernel_rfl)) | (with_reducible refine aw_regionD (fun _ => .r) mixed ?_ (dops_run ?_); (· kernel_rfl)) | with_reducible (first | refine aw_condK ?_ | refine aw_skip ?_ | refine aw_ret ?_ | refine aw_exit ?_ | refine aw_label ?_ | refine aw_block ?_ | refine aw_scope ?_ | refine And.intro ?_ ?_)) <;> (try (simp (maxSteps := 1000000) (disch := first | exact dq | fail) only [go_sem])))
    | (with_reducible (first | refine wantK_split (fun h => ?_) (fun h => ?_) | refine condK_split (fun h => ?_) (fun h => ?_) | refine pickV_split (fun h => ?_) (fun h => ?_)) <;> (try (simp (maxSteps := 1000000) (disch := first | exact dq | fail) only [go_sem] at h)) <;> (try (simp (maxSteps := 1000000) (disch := first | exact dq | fail) only [go_sem, h])))))
    ((first | with_reducible apply left_callf | with_reducible apply leftD_callf | with_reducible apply leftF_callf); (· with_reducible rfl); (· (simp (maxSteps := 1000000) (disch := first | exact dq | fail) only [go_sem]) <;> rfl); (· exact awake4_spec); try (simp (maxSteps := 1000000) (disch := first | exact dq | fail) only [go_sem]))
    (repeat' (first
    | ((first | with_reducible (first | refine aw_seq ?_ | refine aw_region (aops_run ?_)) | (with_reducible refine aw_regionD (fun _ => .p) mixed ?_ (dops_run ?_); (· kernel_rfl)) | (with_reducible refine aw_regionD (fun _ => .r) mixed ?_ (dops_run ?_); (· kernel_rfl)) | with_reducible (first | refine aw_condK ?_ | refine aw_skip ?_ | refine aw_ret ?_ | refine aw_exit ?_ | refine aw_label ?_ | refine aw_block ?_ | refine aw_scope ?_ | refine And.intro ?_ ?_)) <;> (try (simp (maxSteps := 1000000) (disch := first | exact dq | fail) only [go_sem])))
    | (with_reducible (first | refine wantK_split (fun h => ?_) (fun h => ?_) | refine condK_split (fun h => ?_) (fun h => ?_) | refine pickV_split (fun h => ?_) (fun h => ?_)) <;> (try (simp (maxSteps := 1000000) (disch := first | exact dq | fail) only [go_sem] at h)) <;> (try (simp (maxSteps := 1000000) (disch := first | exact dq | fail) only [go_sem, h])))))
    ((first | with_reducible apply left_callf | with_reducible apply leftD_callf | with_reducible apply leftF_callf); (· with_reducible rfl); (· (simp (maxSteps := 1000000) (disch := first | exact dq | fail) only [go_sem]) <;> rfl); (· exact hY); try (simp (maxSteps := 1000000) (disch := first | exact dq | fail) only [go_sem]))
    (repeat' (first
    | ((first | with_reducible (first | refine aw_seq ?_ | refine aw_region (aops_run ?_)) | (with_reducible refine aw_regionD (fun _ => .p) mixed ?_ (dops_run ?_); (· kernel_rfl)) | (with_reducible refine aw_regionD (fun _ => .r) mixed ?_ (dops_run ?_); (· kernel_rfl)) | with_reducible (first | refine aw_condK ?_ | refine aw_skip ?_ | refine aw_ret ?_ | refine aw_exit ?_ | refine aw_label ?_ | refine aw_block ?_ | refine aw_scope ?_ | refine And.intro ?_ ?_)) <;> (try (simp (maxSteps := 1000000) (disch := first | exact dq | fail) only [go_sem])))
    | (with_reducible (first | refine wantK_split (fun h => ?_) (fun h => ?_) | refine condK_split (fun h => ?_) (fun h => ?_) | refine pickV_split (fun h => ?_) (fun h => ?_)) <;> (try (simp (maxSteps := 1000000) (disch := first | exact dq | fail) only [go_sem] at h)) <;> (try (simp (maxSteps := 1000000) (disch := first | exact dq | fail) only [go_sem, h])))))
    ((first | with_reducible apply left_callf | with_reducible apply leftD_callf | with_reducible apply leftF_callf); (· with_reducible rfl); (· (simp (maxSteps := 1000000) (disch := first | exact dq | fail) only [go_sem]) <;> rfl); (· exact hN); try (simp (maxSteps := 1000000) (disch := first | exact dq | fail) only [go_sem]))
    (repeat' (first
    | ((first | with_reducible (first | refine aw_seq ?_ | refine aw_region (aops_run ?_)) | (with_reducible refine aw_regionD (fun _ => .p) mixed ?_ (dops_run ?_); (· kernel_rfl)) | (with_reducible refine aw_regionD (fun _ => .r) mixed ?_ (dops_run ?_); (· kernel_rfl)) | with_reducible (first | refine aw_condK ?_ | refine aw_skip ?_ | refine aw_ret ?_ | refine aw_exit ?_ | refine aw_label ?_ | refine aw_block ?_ | refine aw_scope ?_ | refine And.intro ?_ ?_)) <;> (try (simp (maxSteps := 1000000) (disch := first | exact dq | fail) only [go_sem, hw2, g1, g2, decide_true, decide_false])))
    | (with_reducible (first | refine wantK_split (fun h => ?_) (fun h => ?_) | refine condK_split (fun h => ?_) (fun h => ?_) | refine pickV_split (fun h => ?_) (fun h => ?_)) <;> (try (simp (maxSteps := 1000000) (disch := first | exact dq | fail) only [go_sem] at h)) <;> (try (simp (maxSteps := 1000000) (disch := first | exact dq | fail) only [go_sem, h, hw2, g1, g2, decide_true, decide_false])))))
    all_goals (try omega)
    refine aw_loop (α := Nat) (fun k => ⟨143, sl [(5, .mp 0 0), (7, .iv (.bool true)), (8, .iv (inl m)), (9, .iv (.int .i64 S)), (10, .mp 1 0), (12, .iv (.int .i64 t)), (13, .iv (.int .i64 (cL (sy m) k t : Nat))), (14, .iv (.int .i64 k))],
      [.var 23 [.iv (.int .i64 x), .iv (.int .i64 y), .iv (.int .i64 z)], .var 29 [.iv (.int .i64 m.length), .iv (.int .i64 S), .iv (.sl 7 (rows.map rankV))]], 0⟩)
      (fun k => k ≤ S) (fun k => S - k) 0 (wk_by [0, 1] ?_) (by omega) ?_
    · (simp (maxSteps := 1000000) (disch := first | exact dq | fail) only [go_sem, cL_zero])
    rintro k hk
    have hck := hcl k
    have hck1 := hcl (k + 1)
    by_cases hkS : k < S
    · have hc1 : (k : Int) < S := by omega
      have hR := hRk k t (by omega) htn
      have hB := hBl (k + 1) (by omega)
      rw [show ((k + 1 : Nat) : Int) = (k : Int) + 1 by omega] at hB
      have hsum : (cL (sy m) k t : Int) + (cN (sy m) k t : Nat) = (cL (sy m) (k + 1) t : Nat) := by rw [cL_next]; omega
      (repeat' (first
    | ((first | with_reducible (first | refine aw_seq ?_ | refine aw_region (aops_run ?_)) | (with_reducible refine aw_regionD (fun _ => .p) mixed ?_ (dops_run ?_); (· kernel_rfl)) | (with_reducible refine aw_regionD (fun _ => .r) mixed ?_ (dops_run ?_); (· kernel_rfl)) | with_reducible (first | refine aw_condK ?_ | refine aw_skip ?_ | refine aw_ret ?_ | refine aw_exit ?_ | refine aw_label ?_ | refine aw_block ?_ | refine aw_scope ?_ | refine And.intro ?_ ?_)) <;> (try (simp (maxSteps := 1000000) (disch := first | exact dq | fail) only [go_sem, hc1, decide_true])))
    | (with_reducible (first | refine wantK_split (fun h => ?_) (fun h => ?_) | refine condK_split (fun h => ?_) (fun h => ?_) | refine pickV_split (fun h => ?_) (fun h => ?_)) <;> (try (simp (maxSteps := 1000000) (disch := first | exact dq | fail) only [go_sem] at h)) <;> (try (simp (maxSteps := 1000000) (disch := first | exact dq | fail) only [go_sem, h, hc1, decide_true])))))
      all_goals (try omega)
      ((first | with_reducible apply left_callf | with_reducible apply leftD_callf | with_reducible apply leftF_callf); (· with_reducible rfl); (· (simp (maxSteps := 1000000) (disch := first | exact dq | fail) only [go_sem]) <;> rfl); (· exact hR); try (simp (maxSteps := 1000000) (disch := first | exact dq | fail) only [go_sem]))
      (repeat' (first
    | ((first | with_reducible (first | refine aw_seq ?_ | refine aw_region (aops_run ?_)) | (with_reducible refine aw_regionD (fun _ => .p) mixed ?_ (dops_run ?_); (· kernel_rfl)) | (with_reducible refine aw_regionD (fun _ => .r) mixed ?_ (dops_run ?_); (· kernel_rfl)) | with_reducible (first | refine aw_condK ?_ | refine aw_skip ?_ | refine aw_ret ?_ | refine aw_exit ?_ | refine aw_label ?_ | refine aw_block ?_ | refine aw_scope ?_ | refine And.intro ?_ ?_)) <;> (try (simp (maxSteps := 1000000) (disch := first | exact dq | fail) only [go_sem, hsum])))
    | (with_reducible (first | refine wantK_split (fun h => ?_) (fun h => ?_) | refine condK_split (fun h => ?_) (fun h => ?_) | refine pickV_split (fun h => ?_) (fun h => ?_)) <;> (try (simp (maxSteps := 1000000) (disch := first | exact dq | fail) only [go_sem] at h)) <;> (try (simp (maxSteps := 1000000) (disch := first | exact dq | fail) only [go_sem, h, hsum])))))
      all_goals (try omega)
      ((first | with_reducible apply left_callf | with_reducible apply leftD_callf | with_reducible apply leftF_callf); (· with_reducible rfl); (· (simp (maxSteps := 1000000) (disch := first | exact dq | fail) only [go_sem]) <;> rfl); (· exact hB); try (simp (maxSteps := 1000000) (disch := first | exact dq | fail) only [go_sem]))
      (repeat' (first
    | ((first | with_reducible (first | refine aw_seq ?_ | refine aw_region (aops_run ?_)) | (with_reducible refine aw_regionD (fun _ => .p) mixed ?_ (dops_run ?_); (· kernel_rfl)) | (with_reducible refine aw_regionD (fun _ => .r) mixed ?_ (dops_run ?_); (· kernel_rfl)) | with_reducible (first | refine aw_condK ?_ | refine aw_skip ?_ | refine aw_ret ?_ | refine aw_exit ?_ | refine aw_label ?_ | refine aw_block ?_ | refine aw_scope ?_ | refine And.intro ?_ ?_)) <;> (try (simp (maxSteps := 1000000) (disch := first | exact dq | fail) only [go_sem, eq_self, decide_true, Bool.not_true])))
    | (with_reducible (first | refine wantK_split (fun h => ?_) (fun h => ?_) | refine condK_split (fun h => ?_) (fun h => ?_) | refine pickV_split (fun h => ?_) (fun h => ?_)) <;> (try (simp (maxSteps := 1000000) (disch := first | exact dq | fail) only [go_sem] at h)) <;> (try (simp (maxSteps := 1000000) (disch := first | exact dq | fail) only [go_sem, h, eq_self, decide_true, Bool.not_true])))))
      all_goals (try omega)
      refine ⟨k + 1, by omega, wk_by [0, 1] ?_, by omega⟩
      (simp (maxSteps := 1000000) (disch := first | exact dq | fail) only [go_sem])
    · obtain rfl : k = S := by omega
      have hc1 : ¬ ((k : Int) < k) := by omega
      have hR := hRk c m.length (by omega) (Nat.le_refl _)
      have hSa := hSo (cN (sy m) c m.length : Nat) (by omega)
      have hSb := hSo (-1) (by omega)
      have hal := cN_le (sy m) c m.length
      rw [hfull]
      by_cases h0 : cN (sy m) c m.length = 0
      · have h0' : (cN (sy m) c m.length : Int) = 0 := by omega
        rw [h0'] at hR hSa
        have ht0 : t = t := rfl
        (repeat' (first
    | ((first | with_reducible (first | refine aw_seq ?_ | refine aw_region (aops_run ?_)) | (with_reducible refine aw_regionD (fun _ => .p) mixed ?_ (dops_run ?_); (· kernel_rfl)) | (with_reducible refine aw_regionD (fun _ => .r) mixed ?_ (dops_run ?_); (· kernel_rfl)) | with_reducible (first | refine aw_condK ?_ | refine aw_skip ?_ | refine aw_ret ?_ | refine aw_exit ?_ | refine aw_label ?_ | refine aw_block ?_ | refine aw_scope ?_ | refine And.intro ?_ ?_)) <;> (try (simp (maxSteps := 1000000) (disch := first | exact dq | fail) only [go_sem, hc1, hcw, decide_false])))
    | (with_reducible (first | refine wantK_split (fun h => ?_) (fun h => ?_) | refine condK_split (fun h => ?_) (fun h => ?_) | refine pickV_split (fun h => ?_) (fun h => ?_)) <;> (try (simp (maxSteps := 1000000) (disch := first | exact dq | fail) only [go_sem] at h)) <;> (try (simp (maxSteps := 1000000) (disch := first | exact dq | fail) only [go_sem, h, hc1, hcw, decide_false])))))
        all_goals (try omega)
        ((first | with_reducible apply left_callf | with_reducible apply leftD_callf | with_reducible apply leftF_callf); (· with_reducible rfl); (· (simp (maxSteps := 1000000) (disch := first | exact dq | fail) only [go_sem]) <;> rfl); (· exact hR); try (simp (maxSteps := 1000000) (disch := first | exact dq | fail) only [go_sem]))
        (repeat' (first
    | ((first | with_reducible (first | refine aw_seq ?_ | refine aw_region (aops_run ?_)) | (with_reducible refine aw_regionD (fun _ => .p) mixed ?_ (dops_run ?_); (· kernel_rfl)) | (with_reducible refine aw_regionD (fun _ => .r) mixed ?_ (dops_run ?_); (· kernel_rfl)) | with_reducible (first | refine aw_condK ?_ | refine aw_skip ?_ | refine aw_ret ?_ | refine aw_exit ?_ | refine aw_label ?_ | refine aw_block ?_ | refine aw_scope ?_ | refine And.intro ?_ ?_)) <;> (try (simp (maxSteps := 1000000) (disch := first | exact dq | fail) only [go_sem, eq_self, decide_true, Bool.not_true])))
    | (with_reducible (first | refine wantK_split (fun h => ?_) (fun h => ?_) | refine condK_split (fun h => ?_) (fun h => ?_) | refine pickV_split (fun h => ?_) (fun h => ?_)) <;> (try (simp (maxSteps := 1000000) (disch := first | exact dq | fail) only [go_sem] at h)) <;> (try (simp (maxSteps := 1000000) (disch := first | exact dq | fail) only [go_sem, h, eq_self, decide_true, Bool.not_true])))))
        all_goals (try omega)
        ((first | with_reducible apply left_callf | with_reducible apply leftD_callf | with_reducible apply leftF_callf); (· with_reducible rfl); (· (simp (maxSteps := 1000000) (disch := first | exact dq | fail) only [go_sem]) <;> rfl); (· exact hSa); try (simp (maxSteps := 1000000) (disch := first | exact dq | fail) only [go_sem]))
        (repeat' (first
    | ((first | with_reducible (first | refine aw_seq ?_ | refine aw_region (aops_run ?_)) | (with_reducible refine aw_regionD (fun _ => .p) mixed ?_ (dops_run ?_); (· kernel_rfl)) | (with_reducible refine aw_regionD (fun _ => .r) mixed ?_ (dops_run ?_); (· kernel_rfl)) | with_reducible (first | refine aw_condK ?_ | refine aw_skip ?_ | refine aw_ret ?_ | refine aw_exit ?_ | refine aw_label ?_ | refine aw_block ?_ | refine aw_scope ?_ | refine And.intro ?_ ?_)) <;> (try (simp (maxSteps := 1000000) (disch := first | exact dq | fail) only [go_sem])))
    | (with_reducible (first | refine wantK_split (fun h => ?_) (fun h => ?_) | refine condK_split (fun h => ?_) (fun h => ?_) | refine pickV_split (fun h => ?_) (fun h => ?_)) <;> (try (simp (maxSteps := 1000000) (disch := first | exact dq | fail) only [go_sem] at h)) <;> (try (simp (maxSteps := 1000000) (disch := first | exact dq | fail) only [go_sem, h])))))
        ((first | with_reducible apply left_callf | with_reducible apply leftD_callf | with_reducible apply leftF_callf); (· with_reducible rfl); (· (simp (maxSteps := 1000000) (disch := first | exact dq | fail) only [go_sem]) <;> rfl); (· exact hSb); try (simp (maxSteps := 1000000) (disch := first | exact dq | fail) only [go_sem]))
        (repeat' (first
    | ((first | with_reducible (first | refine aw_seq ?_ | refine aw_region (aops_run ?_)) | (with_reducible refine aw_regionD (fun _ => .p) mixed ?_ (dops_run ?_); (· kernel_rfl)) | (with_reducible refine aw_regionD (fun _ => .r) mixed ?_ (dops_run ?_); (· kernel_rfl)) | with_reducible (first | refine aw_condK ?_ | refine aw_skip ?_ | refine aw_ret ?_ | refine aw_exit ?_ | refine aw_label ?_ | refine aw_block ?_ | refine aw_scope ?_ | refine And.intro ?_ ?_)) <;> (try (simp (maxSteps := 1000000) (disch := first | exact dq | fail) only [go_sem])))
    | (with_reducible (first | refine wantK_split (fun h => ?_) (fun h => ?_) | refine condK_split (fun h => ?_) (fun h => ?_) | refine pickV_split (fun h => ?_) (fun h => ?_)) <;> (try (simp (maxSteps := 1000000) (disch := first | exact dq | fail) only [go_sem] at h)) <;> (try (simp (maxSteps := 1000000) (disch := first | exact dq | fail) only [go_sem, h])))))
        all_goals (try omega)
      · have h0' : ¬ (cN (sy m) c m.length : Int) = 0 := by omega
        have hcy := cutS_range (show (0 : Int) < (cN (sy m) c m.length : Nat) by omega) y
        have hyl := Int.lt_tmod_of_pos y (show (0 : Int) < (cN (sy m) c m.length : Nat) by omega)
        have hyg := Int.tmod_lt_of_pos y (show (0 : Int) < (cN (sy m) c m.length : Nat) by omega)
        obtain ⟨j, hj⟩ : ∃ j : Nat, cutS (cN (sy m) c m.length : Nat) y = j := ⟨(cutS (cN (sy m) c m.length : Nat) y).toNat, by omega⟩
        have hyw := hj
        rw [hj] at hcy
        unfold cutS at hyw
        rw [tmodS (by omega)] at hyw
        obtain ⟨q, hq, hqc, hqj⟩ := sel_ex (sy m) c (show j < cN (sy m) c m.length by omega)
        have hSel := hSi q hq
        rw [hqc, hqj] at hSel
        have hmq := hsyq hq
        rw [hqc] at hmq
        have hRa := hRk c q (by omega) (by omega)
        rw [hqj] at hRa
        have hRb := hRk c (q + 1) (by omega) (by omega)
        rw [show cN (sy m) c (q + 1) = j + 1 by rw [cN, if_pos hqc, hqj], show ((q + 1 : Nat) : Int) = (q : Int) + 1 by omega, show ((j + 1 : Nat) : Int) = (j : Int) + 1 by omega] at hRb
        have hqm : (q : Int) < m.length := by omega
        generalize cN (sy m) c m.length = all at *
        (repeat' (first
    | ((first | with_reducible (first | refine aw_seq ?_ | refine aw_region (aops_run ?_)) | (with_reducible refine aw_regionD (fun _ => .p) mixed ?_ (dops_run ?_); (· kernel_rfl)) | (with_reducible refine aw_regionD (fun _ => .r) mixed ?_ (dops_run ?_); (· kernel_rfl)) | with_reducible (first | refine aw_condK ?_ | refine aw_skip ?_ | refine aw_ret ?_ | refine aw_exit ?_ | refine aw_label ?_ | refine aw_block ?_ | refine aw_scope ?_ | refine And.intro ?_ ?_)) <;> (try (simp (maxSteps := 1000000) (disch := first | exact dq | fail) only [go_sem, hc1, hcw, decide_false])))
    | (with_reducible (first | refine wantK_split (fun h => ?_) (fun h => ?_) | refine condK_split (fun h => ?_) (fun h => ?_) | refine pickV_split (fun h => ?_) (fun h => ?_)) <;> (try (simp (maxSteps := 1000000) (disch := first | exact dq | fail) only [go_sem] at h)) <;> (try (simp (maxSteps := 1000000) (disch := first | exact dq | fail) only [go_sem, h, hc1, hcw, decide_false])))))
        all_goals (try omega)
        ((first | with_reducible apply left_callf | with_reducible apply leftD_callf | with_reducible apply leftF_callf); (· with_reducible rfl); (· (simp (maxSteps := 1000000) (disch := first | exact dq | fail) only [go_sem]) <;> rfl); (· exact hR); try (simp (maxSteps := 1000000) (disch := first | exact dq | fail) only [go_sem]))
        (repeat' (first
    | ((first | with_reducible (first | refine aw_seq ?_ | refine aw_region (aops_run ?_)) | (with_reducible refine aw_regionD (fun _ => .p) mixed ?_ (dops_run ?_); (· kernel_rfl)) | (with_reducible refine aw_regionD (fun _ => .r) mixed ?_ (dops_run ?_); (· kernel_rfl)) | with_reducible (first | refine aw_condK ?_ | refine aw_skip ?_ | refine aw_ret ?_ | refine aw_exit ?_ | refine aw_label ?_ | refine aw_block ?_ | refine aw_scope ?_ | refine And.intro ?_ ?_)) <;> (try (simp (maxSteps := 1000000) (disch := first | exact dq | fail) only [go_sem, eq_self, decide_true, Bool.not_true])))
    | (with_reducible (first | refine wantK_split (fun h => ?_) (fun h => ?_) | refine condK_split (fun h => ?_) (fun h => ?_) | refine pickV_split (fun h => ?_) (fun h => ?_)) <;> (try (simp (maxSteps := 1000000) (disch := first | exact dq | fail) only [go_sem] at h)) <;> (try (simp (maxSteps := 1000000) (disch := first | exact dq | fail) only [go_sem, h, eq_self, decide_true, Bool.not_true])))))
        all_goals (try omega)
        ((first | with_reducible apply left_callf | with_reducible apply leftD_callf | with_reducible apply leftF_callf); (· with_reducible rfl); (· (simp (maxSteps := 1000000) (disch := first | exact dq | fail) only [go_sem]) <;> rfl); (· exact hSa); try (simp (maxSteps := 1000000) (disch := first | exact dq | fail) only [go_sem]))
        (repeat' (first
    | ((first | with_reducible (first | refine aw_seq ?_ | refine aw_region (aops_run ?_)) | (with_reducible refine aw_regionD (fun _ => .p) mixed ?_ (dops_run ?_); (· kernel_rfl)) | (with_reducible refine aw_regionD (fun _ => .r) mixed ?_ (dops_run ?_); (· kernel_rfl)) | with_reducible (first | refine aw_condK ?_ | refine aw_skip ?_ | refine aw_ret ?_ | refine aw_exit ?_ | refine aw_label ?_ | refine aw_block ?_ | refine aw_scope ?_ | refine And.intro ?_ ?_)) <;> (try (simp (maxSteps := 1000000) (disch := first | exact dq | fail) only [go_sem])))
    | (with_reducible (first | refine wantK_split (fun h => ?_) (fun h => ?_) | refine condK_split (fun h => ?_) (fun h => ?_) | refine pickV_split (fun h => ?_) (fun h => ?_)) <;> (try (simp (maxSteps := 1000000) (disch := first | exact dq | fail) only [go_sem] at h)) <;> (try (simp (maxSteps := 1000000) (disch := first | exact dq | fail) only [go_sem, h])))))
        ((first | with_reducible apply left_callf | with_reducible apply leftD_callf | with_reducible apply leftF_callf); (· with_reducible rfl); (· (simp (maxSteps := 1000000) (disch := first | exact dq | fail) only [go_sem]) <;> rfl); (· exact hSb); try (simp (maxSteps := 1000000) (disch := first | exact dq | fail) only [go_sem]))
        (repeat' (first
    | ((first | with_reducible (first | refine aw_seq ?_ | refine aw_region (aops_run ?_)) | (with_reducible refine aw_regionD (fun _ => .p) mixed ?_ (dops_run ?_); (· kernel_rfl)) | (with_reducible refine aw_regionD (fun _ => .r) mixed ?_ (dops_run ?_); (· kernel_rfl)) | with_reducible (first | refine aw_condK ?_ | refine aw_skip ?_ | refine aw_ret ?_ | refine aw_exit ?_ | refine aw_label ?_ | refine aw_block ?_ | refine aw_scope ?_ | refine And.intro ?_ ?_)) <;> (try (simp (maxSteps := 1000000) (disch := first | exact dq | fail) only [go_sem, h0', hyw, decide_false])))
    | (with_reducible (first | refine wantK_split (fun h => ?_) (fun h => ?_) | refine condK_split (fun h => ?_) (fun h => ?_) | refine pickV_split (fun h => ?_) (fun h => ?_)) <;> (try (simp (maxSteps := 1000000) (disch := first | exact dq | fail) only [go_sem] at h)) <;> (try (simp (maxSteps := 1000000) (disch := first | exact dq | fail) only [go_sem, h, h0', hyw, decide_false])))))
        all_goals (try omega)
        ((first | with_reducible apply left_callf | with_reducible apply leftD_callf | with_reducible apply leftF_callf); (· with_reducible rfl); (· (simp (maxSteps := 1000000) (disch := first | exact dq | fail) only [go_sem]) <;> rfl); (· exact hSel); try (simp (maxSteps := 1000000) (disch := first | exact dq | fail) only [go_sem]))
        (repeat' (first
    | ((first | with_reducible (first | refine aw_seq ?_ | refine aw_region (aops_run ?_)) | (with_reducible refine aw_regionD (fun _ => .p) mixed ?_ (dops_run ?_); (· kernel_rfl)) | (with_reducible refine aw_regionD (fun _ => .r) mixed ?_ (dops_run ?_); (· kernel_rfl)) | with_reducible (first | refine aw_condK ?_ | refine aw_skip ?_ | refine aw_ret ?_ | refine aw_exit ?_ | refine aw_label ?_ | refine aw_block ?_ | refine aw_scope ?_ | refine And.intro ?_ ?_)) <;> (try (simp (maxSteps := 1000000) (disch := first | exact dq | fail) only [go_sem, hqm, hmq, eq_self, decide_true])))
    | (with_reducible (first | refine wantK_split (fun h => ?_) (fun h => ?_) | refine condK_split (fun h => ?_) (fun h => ?_) | refine pickV_split (fun h => ?_) (fun h => ?_)) <;> (try (simp (maxSteps := 1000000) (disch := first | exact dq | fail) only [go_sem] at h)) <;> (try (simp (maxSteps := 1000000) (disch := first | exact dq | fail) only [go_sem, h, hqm, hmq, eq_self, decide_true])))))
        all_goals (try omega)
        ((first | with_reducible apply left_callf | with_reducible apply leftD_callf | with_reducible apply leftF_callf); (· with_reducible rfl); (· (simp (maxSteps := 1000000) (disch := first | exact dq | fail) only [go_sem]) <;> rfl); (· exact hRa); try (simp (maxSteps := 1000000) (disch := first | exact dq | fail) only [go_sem]))
        (repeat' (first
    | ((first | with_reducible (first | refine aw_seq ?_ | refine aw_region (aops_run ?_)) | (with_reducible refine aw_regionD (fun _ => .p) mixed ?_ (dops_run ?_); (· kernel_rfl)) | (with_reducible refine aw_regionD (fun _ => .r) mixed ?_ (dops_run ?_); (· kernel_rfl)) | with_reducible (first | refine aw_condK ?_ | refine aw_skip ?_ | refine aw_ret ?_ | refine aw_exit ?_ | refine aw_label ?_ | refine aw_block ?_ | refine aw_scope ?_ | refine And.intro ?_ ?_)) <;> (try (simp (maxSteps := 1000000) (disch := first | exact dq | fail) only [go_sem, eq_self, decide_true])))
    | (with_reducible (first | refine wantK_split (fun h => ?_) (fun h => ?_) | refine condK_split (fun h => ?_) (fun h => ?_) | refine pickV_split (fun h => ?_) (fun h => ?_)) <;> (try (simp (maxSteps := 1000000) (disch := first | exact dq | fail) only [go_sem] at h)) <;> (try (simp (maxSteps := 1000000) (disch := first | exact dq | fail) only [go_sem, h, eq_self, decide_true])))))
        all_goals (try omega)
        ((first | with_reducible apply left_callf | with_reducible apply leftD_callf | with_reducible apply leftF_callf); (· with_reducible rfl); (· (simp (maxSteps := 1000000) (disch := first | exact dq | fail) only [go_sem]) <;> rfl); (· exact hRb); try (simp (maxSteps := 1000000) (disch := first | exact dq | fail) only [go_sem]))
        (repeat' (first
    | ((first | with_reducible (first | refine aw_seq ?_ | refine aw_region (aops_run ?_)) | (with_reducible refine aw_regionD (fun _ => .p) mixed ?_ (dops_run ?_); (· kernel_rfl)) | (with_reducible refine aw_regionD (fun _ => .r) mixed ?_ (dops_run ?_); (· kernel_rfl)) | with_reducible (first | refine aw_condK ?_ | refine aw_skip ?_ | refine aw_ret ?_ | refine aw_exit ?_ | refine aw_label ?_ | refine aw_block ?_ | refine aw_scope ?_ | refine And.intro ?_ ?_)) <;> (try (simp (maxSteps := 1000000) (disch := first | exact dq | fail) only [go_sem, eq_self, decide_true])))
    | (with_reducible (first | refine wantK_split (fun h => ?_) (fun h => ?_) | refine condK_split (fun h => ?_) (fun h => ?_) | refine pickV_split (fun h => ?_) (fun h => ?_)) <;> (try (simp (maxSteps := 1000000) (disch := first | exact dq | fail) only [go_sem] at h)) <;> (try (simp (maxSteps := 1000000) (disch := first | exact dq | fail) only [go_sem, h, eq_self, decide_true])))))
        all_goals (try omega))
theorem WaveTurns_three (l : List Int) (sz : Int) (q : List Int) (hq : q.length = 3) : PCalls Try.prog 3 [inl l, .int .i64 sz, .agg (q.map (IV.int .i64))] (.bool true) := by
  match q, hq with
  | [x, y, z], _ => exact WaveTurns_spec l sz x y z
end Go.Proofs.Ytkfjldkememadaa.AM
