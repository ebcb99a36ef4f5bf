
/- The law WaveParts, as a call. No condition. -/
import Derived.Test.YtkfjldkememadaaW8
set_option linter.unusedVariables false
set_option linter.unusedSimpArgs false
set_option maxRecDepth 20000
namespace Go.Proofs.Ytkfjldkememadaa.AM
open Go Go.RowKit

def inW (m : List Int) (a b : Nat) (c : Int) : Nat := cN (sy m) c.toNat b - cN (sy m) c.toNat a
theorem dist_sum (m : List Int) {a b : Nat} (hab : a ≤ b) : ∀ N, ((((List.range N).filter (inR m a b)).map (fun (c : Nat) => (c : Int))).map (inW m a b)).sum + cL (sy m) N a = cL (sy m) N b
  | 0 => by rw [cL_zero, cL_zero]; rfl
  | N + 1 => by
    have ih := dist_sum m hab N
    have hm := cN_mono (sy m) N hab
    rw [List.range_succ, List.filter_append, List.map_append, List.map_append, List.sum_append, cL_next, cL_next]
    by_cases h : inR m a b N = true
    · rw [List.filter_cons_of_pos h]
      simp only [List.filter_nil, List.map_cons, List.map_nil, List.sum_cons, List.sum_nil]
      unfold inW at ih ⊢
      rw [Int.toNat_natCast]
      omega
    · rw [List.filter_cons_of_neg h]
      simp only [List.filter_nil, List.map_nil, List.sum_nil]
      unfold inR at h
      simp only [decide_eq_true_eq] at h
      omega
theorem dist_mem {m : List Int} {W a b : Nat} {x : Int} (h : x ∈ distL m W a b) : ∃ c : Nat, x = c ∧ c < 2 ^ W ∧ cN (sy m) c a < cN (sy m) c b := by
  unfold distL at h
  obtain ⟨c, hc, rfl⟩ := List.mem_map.1 h
  rw [List.mem_filter] at hc
  refine ⟨c, rfl, List.mem_range.1 hc.1, ?_⟩
  have := hc.2
  unfold inR at this
  simpa using this
theorem dist_up (m : List Int) (W a b : Nat) : (distL m W a b).Pairwise (· < ·) := by
  unfold distL
  rw [List.pairwise_map]
  exact ((List.pairwise_lt_range).filter _).imp (fun h => by omega)
theorem cN_has {K : Nat → Nat} {c : Nat} : ∀ {n : Nat}, 0 < cN K c n → ∃ i, i < n ∧ K i = c
  | 0, h => by simp [cN] at h
  | n + 1, h => by
    rw [cN] at h
    by_cases e : K n = c
    · exact ⟨n, by omega, e⟩
    · rw [if_neg e] at h
      obtain ⟨i, hi, h⟩ := cN_has (n := n) (K := K) (c := c) (by omega)
      exact ⟨i, by omega, h⟩
set_option maxHeartbeats 4000000 in
theorem WaveParts_spec (l : List Int) (sz x y z : Int) : PCalls Try.prog 4 [inl l, .int .i64 sz, .agg [.int .i64 x, .int .i64 y, .int .i64 z]] (.bool true) := by
  have hY := symbols_spec l sz
  obtain ⟨W, rows, hM⟩ := mk_syms sz l
  generalize symsL (1 + sz % 32) l = m at *
  generalize 1 + sz % 32 = s at *
  obtain ⟨hw, hs0, hs1, hn, hW, hsym, hpow, hN⟩ := hM
  obtain ⟨S, rfl⟩ : ∃ S : Nat, s = S := ⟨s.toNat, by omega⟩
  have hcx := cutS_range (show (0 : Int) < S by omega) x
  have hxl := Int.lt_tmod_of_pos x (show (0 : Int) < S by omega)
  have hxg := Int.tmod_lt_of_pos x (show (0 : Int) < S by omega)
  obtain ⟨c, hc⟩ : ∃ c : Nat, cutS S x = c := ⟨(cutS S x).toNat, by omega⟩
  have hcw := hc
  rw [hc] at hcx
  unfold cutS at hcw
  rw [tmodS (by omega)] at hcw
  have hyl := Int.lt_tmod_of_pos y (show (0 : Int) < (m.length : Int) + 1 by omega)
  have hyg := Int.tmod_lt_of_pos y (show (0 : Int) < (m.length : Int) + 1 by omega)
  have hzl := Int.lt_tmod_of_pos z (show (0 : Int) < (m.length : Int) + 1 by omega)
  have hzg := Int.tmod_lt_of_pos z (show (0 : Int) < (m.length : Int) + 1 by omega)
  have hCt : ∀ (c a b : Nat), (c : Int) < S → a ≤ b → b ≤ m.length → PCalls Try.prog 16 [waveV m.length S rows, .int .i64 c, .int .i64 a, .int .i64 b] (.int .i64 ((cN (sy m) c b : Nat) - (cN (sy m) c a : Nat))) := fun c a b hc hab hb => by
    have := Count_in hw S c hc (hpow c hc) a b (by omega) (by omega)
    rwa [show clI m.length a = a by unfold clI; omega, show clI m.length (max (b : Int) (a : Nat)) = b by unfold clI; omega] at this
  have hcase : ∃ a b : Nat, a ≤ b ∧ b ≤ m.length ∧ (((y.tmod ((m.length : Int) + 1) + m.length + 1) % ((m.length : Int) + 1) = b ∧ (z.tmod ((m.length : Int) + 1) + m.length + 1) % ((m.length : Int) + 1) = a ∧ ((b : Int) > a) = True) ∨
      ((y.tmod ((m.length : Int) + 1) + m.length + 1) % ((m.length : Int) + 1) = a ∧ (z.tmod ((m.length : Int) + 1) + m.length + 1) % ((m.length : Int) + 1) = b ∧ ((a : Int) > b) = False)) := by
    have h1 := Int.emod_nonneg (y.tmod ((m.length : Int) + 1) + m.length + 1) (show (m.length : Int) + 1 ≠ 0 by omega)
    have h2 := Int.emod_lt_of_pos (y.tmod ((m.length : Int) + 1) + m.length + 1) (show (0 : Int) < (m.length : Int) + 1 by omega)
    have h3 := Int.emod_nonneg (z.tmod ((m.length : Int) + 1) + m.length + 1) (show (m.length : Int) + 1 ≠ 0 by omega)
    have h4 := Int.emod_lt_of_pos (z.tmod ((m.length : Int) + 1) + m.length + 1) (show (0 : Int) < (m.length : Int) + 1 by omega)
    generalize (y.tmod ((m.length : Int) + 1) + m.length + 1) % ((m.length : Int) + 1) = A at *
    generalize (z.tmod ((m.length : Int) + 1) + m.length + 1) % ((m.length : Int) + 1) = B at *
    by_cases g : A > B
    · exact ⟨B.toNat, A.toNat, by omega, by omega, .inl ⟨by omega, by omega, eq_true (by omega)⟩⟩
    · exact ⟨A.toNat, B.toNat, by omega, by omega, .inr ⟨by omega, by omega, eq_false (by omega)⟩⟩
  obtain ⟨a, b, hab, hb, hcase⟩ := hcase
  have hC1 := hCt c 0 a (by omega) (by omega) (by omega)
  have hC2 := hCt c a b (by omega) hab hb
  have hC3 := hCt c b m.length (by omega) hb (Nat.le_refl _)
  have hR := Rank_in hw S c (by omega) (hpow c (by omega)) m.length (by omega) (by omega)
  rw [show clI m.length m.length = m.length by unfold clI; omega] at hR
  have hD := Distinct_spec hw S (by omega) (by omega) a b
  rw [show clI m.length a = a by unfold clI; omega, show clI m.length (max (b : Int) (a : Nat)) = b by unfold clI; omega] at hD
  have hsumW := dist_sum m hab (2 ^ W)
  change ((distL m W a b).map (inW m a b)).sum + _ = _ at hsumW
  rw [cL_full (fun i hi => hw.lt (by omega)), cL_full (fun i hi => hw.lt (by omega))] at hsumW
  have hmem := fun x (h : x ∈ distL m W a b) => dist_mem h
  have hup := dist_up m W a b
  generalize distL m W a b = D at *
  have m1 := cN_mono (sy m) c hab
  have m2 := cN_mono (sy m) c hb
  have m3 := cN_le (sy m) c m.length
  have m4 := cN_mono (sy m) c (Nat.zero_le a)
  have hz0 : cN (sy m) c 0 = 0 := rfl
  rw [hz0, show ((cN (sy m) c a : Nat) : Int) - ((0 : Nat) : Int) = (cN (sy m) c a : Nat) by omega] at hC1
  have hpre : ∀ i, ((D.take i).map (inW m a b)).sum ≤ b - a := fun i => by
    have : D = D.take i ++ D.drop i := (List.take_append_drop i D).symm
    have e : (D.map (inW m a b)).sum = ((D.take i).map (inW m a b)).sum + ((D.drop i).map (inW m a b)).sum := by
      conv => lhs; rw [this]
      rw [List.map_append, List.sum_append]
    omega
  have hdl : D.length ≤ b - a := by
    have : ∀ (L : List Int), (∀ x ∈ L, 1 ≤ inW m a b x) → L.length ≤ (L.map (inW m a b)).sum := by
      intro L
      induction L with
      | nil => intro _; simp
      | cons x L ih =>
        intro h
        have h1 := h x (List.mem_cons_self ..)
        have h2 := ih (fun y hy => h y (List.mem_cons_of_mem _ hy))
        rw [List.map_cons, List.sum_cons, List.length_cons]; omega
    have h2 := this D (fun x hx => by
      obtain ⟨k, rfl, _, hk⟩ := hmem x hx
      unfold inW
      rw [Int.toNat_natCast]; omega)
    omega
  unfold waveV at *
  rcases hcase with ⟨eA, eB, g⟩ | ⟨eA, eB, g⟩
  all_goals (
    refine PCalls.of_aw Try.func4 rfl (by unfold Callable; kernel_rfl) (by kernel_rfl) (by simp [Try.ntmps4]) ?_; rw [Try.ntmps4, Try.results4]; (simp (maxSteps := 1000000) (disch := first | exact dq | fail) only [go_sem])
    (repeat' (first
    | ((first | with_reducible (first | refine aw_seq ?_ | refine aw_region (aops_run ?_)) | (with_reducible refine aw_regionD (fun _ => .p) mixed ?_ (dops_run ?_); (· kernel_rfl)) | (with_reducible refine aw_regionD (fun _ => .r) mixed ?_ (dops_run ?_); (· kernel_rfl)) | with_reducible (first | refine aw_condK ?_ | refine aw_skip ?_ | refine aw_ret ?_ | refine aw_exit ?_ | refine aw_label ?_ | refine aw_block ?_ | refine aw_scope ?_ | refine And.intro ?_ ?_)) <;> (try (simp (maxSteps := 1000000) (disch := first | exact dq | fail) only [go_sem])))
    | (with_reducible (first | refine wantK_split (fun h => ?_) (fun h => ?_) | refine condK_split (fun h => ?_) (fun h => ?_) | refine pickV_split (fun h => ?_) (fun h => ?_)) <;> (try (simp (maxSteps := 1000000) (disch := first | exact dq | fail) only [go_sem] at h)) <;> (try (simp (maxSteps := 1000000) (disch := first | exact dq | fail) only [go_sem, h])))))
    ((first | with_reducible apply left_callf | with_reducible apply leftD_callf | with_reducible apply leftF_callf); (· with_reducible rfl); (· (simp (maxSteps := 1000000) (disch := first | exact dq | fail) only [go_sem]) <;> rfl); (· exact awake4_spec); try (simp (maxSteps := 1000000) (disch := first | exact dq | fail) only [go_sem]))
    (repeat' (first
    | ((first | with_reducible (first | refine aw_seq ?_ | refine aw_region (aops_run ?_)) | (with_reducible refine aw_regionD (fun _ => .p) mixed ?_ (dops_run ?_); (· kernel_rfl)) | (with_reducible refine aw_regionD (fun _ => .r) mixed ?_ (dops_run ?_); (· kernel_rfl)) | with_reducible (first | refine aw_condK ?_ | refine aw_skip ?_ | refine aw_ret ?_ | refine aw_exit ?_ | refine aw_label ?_ | refine aw_block ?_ | refine aw_scope ?_ | refine And.intro ?_ ?_)) <;> (try (simp (maxSteps := 1000000) (disch := first | exact dq | fail) only [go_sem])))
    | (with_reducible (first | refine wantK_split (fun h => ?_) (fun h => ?_) | refine condK_split (fun h => ?_) (fun h => ?_) | refine pickV_split (fun h => ?_) (fun h => ?_)) <;> (try (simp (maxSteps := 1000000) (disch := first | exact dq | fail) only [go_sem] at h)) <;> (try (simp (maxSteps := 1000000) (disch := first | exact dq | fail) only [go_sem, h])))))
    ((first | with_reducible apply left_callf | with_reducible apply leftD_callf | with_reducible apply leftF_callf); (· with_reducible rfl); (· (simp (maxSteps := 1000000) (disch := first | exact dq | fail) only [go_sem]) <;> rfl); (· exact hY); try (simp (maxSteps := 1000000) (disch := first | exact dq | fail) only [go_sem]))
    (repeat' (first
    | ((first | with_reducible (first | refine aw_seq ?_ | refine aw_region (aops_run ?_)) | (with_reducible refine aw_regionD (fun _ => .p) mixed ?_ (dops_run ?_); (· kernel_rfl)) | (with_reducible refine aw_regionD (fun _ => .r) mixed ?_ (dops_run ?_); (· kernel_rfl)) | with_reducible (first | refine aw_condK ?_ | refine aw_skip ?_ | refine aw_ret ?_ | refine aw_exit ?_ | refine aw_label ?_ | refine aw_block ?_ | refine aw_scope ?_ | refine And.intro ?_ ?_)) <;> (try (simp (maxSteps := 1000000) (disch := first | exact dq | fail) only [go_sem])))
    | (with_reducible (first | refine wantK_split (fun h => ?_) (fun h => ?_) | refine condK_split (fun h => ?_) (fun h => ?_) | refine pickV_split (fun h => ?_) (fun h => ?_)) <;> (try (simp (maxSteps := 1000000) (disch := first | exact dq | fail) only [go_sem] at h)) <;> (try (simp (maxSteps := 1000000) (disch := first | exact dq | fail) only [go_sem, h])))))
    ((first | with_reducible apply left_callf | with_reducible apply leftD_callf | with_reducible apply leftF_callf); (· with_reducible rfl); (· (simp (maxSteps := 1000000) (disch := first | exact dq | fail) only [go_sem]) <;> rfl); (· exact hN); try (simp (maxSteps := 1000000) (disch := first | exact dq | fail) only [go_sem]))
    (repeat' (first
    | ((first | with_reducible (first | refine aw_seq ?_ | refine aw_region (aops_run ?_)) | (with_reducible refine aw_regionD (fun _ => .p) mixed ?_ (dops_run ?_); (· kernel_rfl)) | (with_reducible refine aw_regionD (fun _ => .r) mixed ?_ (dops_run ?_); (· kernel_rfl)) | with_reducible (first | refine aw_condK ?_ | refine aw_skip ?_ | refine aw_ret ?_ | refine aw_exit ?_ | refine aw_label ?_ | refine aw_block ?_ | refine aw_scope ?_ | refine And.intro ?_ ?_)) <;> (try (simp (maxSteps := 1000000) (disch := first | exact dq | fail) only [go_sem, eA, eB, g, hcw, decide_true, decide_false])))
    | (with_reducible (first | refine wantK_split (fun h => ?_) (fun h => ?_) | refine condK_split (fun h => ?_) (fun h => ?_) | refine pickV_split (fun h => ?_) (fun h => ?_)) <;> (try (simp (maxSteps := 1000000) (disch := first | exact dq | fail) only [go_sem] at h)) <;> (try (simp (maxSteps := 1000000) (disch := first | exact dq | fail) only [go_sem, h, eA, eB, g, hcw, decide_true, decide_false])))))
    all_goals (try omega)
    ((first | with_reducible apply left_callf | with_reducible apply leftD_callf | with_reducible apply leftF_callf); (· with_reducible rfl); (· (simp (maxSteps := 1000000) (disch := first | exact dq | fail) only [go_sem]) <;> rfl); (· exact hC1); try (simp (maxSteps := 1000000) (disch := first | exact dq | fail) only [go_sem]))
    (repeat' (first
    | ((first | with_reducible (first | refine aw_seq ?_ | refine aw_region (aops_run ?_)) | (with_reducible refine aw_regionD (fun _ => .p) mixed ?_ (dops_run ?_); (· kernel_rfl)) | (with_reducible refine aw_regionD (fun _ => .r) mixed ?_ (dops_run ?_); (· kernel_rfl)) | with_reducible (first | refine aw_condK ?_ | refine aw_skip ?_ | refine aw_ret ?_ | refine aw_exit ?_ | refine aw_label ?_ | refine aw_block ?_ | refine aw_scope ?_ | refine And.intro ?_ ?_)) <;> (try (simp (maxSteps := 1000000) (disch := first | exact dq | fail) only [go_sem])))
    | (with_reducible (first | refine wantK_split (fun h => ?_) (fun h => ?_) | refine condK_split (fun h => ?_) (fun h => ?_) | refine pickV_split (fun h => ?_) (fun h => ?_)) <;> (try (simp (maxSteps := 1000000) (disch := first | exact dq | fail) only [go_sem] at h)) <;> (try (simp (maxSteps := 1000000) (disch := first | exact dq | fail) only [go_sem, h])))))
    ((first | with_reducible apply left_callf | with_reducible apply leftD_callf | with_reducible apply leftF_callf); (· with_reducible rfl); (· (simp (maxSteps := 1000000) (disch := first | exact dq | fail) only [go_sem]) <;> rfl); (· exact hC2); try (simp (maxSteps := 1000000) (disch := first | exact dq | fail) only [go_sem]))
    (repeat' (first
    | ((first | with_reducible (first | refine aw_seq ?_ | refine aw_region (aops_run ?_)) | (with_reducible refine aw_regionD (fun _ => .p) mixed ?_ (dops_run ?_); (· kernel_rfl)) | (with_reducible refine aw_regionD (fun _ => .r) mixed ?_ (dops_run ?_); (· kernel_rfl)) | with_reducible (first | refine aw_condK ?_ | refine aw_skip ?_ | refine aw_ret ?_ | refine aw_exit ?_ | refine aw_label ?_ | refine aw_block ?_ | refine aw_scope ?_ | refine And.intro ?_ ?_)) <;> (try (simp (maxSteps := 1000000) (disch := first | exact dq | fail) only [go_sem])))
    | (with_reducible (first | refine wantK_split (fun h => ?_) (fun h => ?_) | refine condK_split (fun h => ?_) (fun h => ?_) | refine pickV_split (fun h => ?_) (fun h => ?_)) <;> (try (simp (maxSteps := 1000000) (disch := first | exact dq | fail) only [go_sem] at h)) <;> (try (simp (maxSteps := 1000000) (disch := first | exact dq | fail) only [go_sem, h])))))
    ((first | with_reducible apply left_callf | with_reducible apply leftD_callf | with_reducible apply leftF_callf); (· with_reducible rfl); (· (simp (maxSteps := 1000000) (disch := first | exact dq | fail) only [go_sem]) <;> rfl); (· exact hC3); try (simp (maxSteps := 1000000) (disch := first | exact dq | fail) only [go_sem]))
    (repeat' (first
    | ((first | with_reducible (first | refine aw_seq ?_ | refine aw_region (aops_run ?_)) | (with_reducible refine aw_regionD (fun _ => .p) mixed ?_ (dops_run ?_); (· kernel_rfl)) | (with_reducible refine aw_regionD (fun _ => .r) mixed ?_ (dops_run ?_); (· kernel_rfl)) | with_reducible (first | refine aw_condK ?_ | refine aw_skip ?_ | refine aw_ret ?_ | refine aw_exit ?_ | refine aw_label ?_ | refine aw_block ?_ | refine aw_scope ?_ | refine And.intro ?_ ?_)) <;> (try (simp (maxSteps := 1000000) (disch := first | exact dq | fail) only [go_sem])))
    | (with_reducible (first | refine wantK_split (fun h => ?_) (fun h => ?_) | refine condK_split (fun h => ?_) (fun h => ?_) | refine pickV_split (fun h => ?_) (fun h => ?_)) <;> (try (simp (maxSteps := 1000000) (disch := first | exact dq | fail) only [go_sem] at h)) <;> (try (simp (maxSteps := 1000000) (disch := first | exact dq | fail) only [go_sem, h])))))
    ((first | with_reducible apply left_callf | with_reducible apply leftD_callf | with_reducible apply leftF_callf); (· with_reducible rfl); (· (simp (maxSteps := 1000000) (disch := first | exact dq | fail) only [go_sem]) <;> rfl); (· exact hD); try (simp (maxSteps := 1000000) (disch := first | exact dq | fail) only [go_sem]))
    (repeat' (first
    | ((first | with_reducible (first | refine aw_seq ?_ | refine aw_region (aops_run ?_)) | (with_reducible refine aw_regionD (fun _ => .p) mixed ?_ (dops_run ?_); (· kernel_rfl)) | (with_reducible refine aw_regionD (fun _ => .r) mixed ?_ (dops_run ?_); (· kernel_rfl)) | with_reducible (first | refine aw_condK ?_ | refine aw_skip ?_ | refine aw_ret ?_ | refine aw_exit ?_ | refine aw_label ?_ | refine aw_block ?_ | refine aw_scope ?_ | refine And.intro ?_ ?_)) <;> (try (simp (maxSteps := 1000000) (disch := first | exact dq | fail) only [go_sem])))
    | (with_reducible (first | refine wantK_split (fun h => ?_) (fun h => ?_) | refine condK_split (fun h => ?_) (fun h => ?_) | refine pickV_split (fun h => ?_) (fun h => ?_)) <;> (try (simp (maxSteps := 1000000) (disch := first | exact dq | fail) only [go_sem] at h)) <;> (try (simp (maxSteps := 1000000) (disch := first | exact dq | fail) only [go_sem, h])))))
    refine aw_loop (α := Nat) (fun i => ⟨155, sl [(5, .mp 0 0), (7, .iv (.bool true)), (8, .iv (inl m)), (10, .mp 1 0), (12, .iv (.int .i64 a)), (13, .iv (.int .i64 b)), (15, .iv (.int .i64 c)), (16, .iv (.int .i64 (cN (sy m) c a : Nat))), (17, .iv (.int .i64 ((cN (sy m) c b : Nat) - (cN (sy m) c a : Nat)))), (18, .iv (.int .i64 ((cN (sy m) c m.length : Nat) - (cN (sy m) c b : Nat)))),
        (19, .iv (inl D)), (20, .iv (.int .i64 (((D.take i).map (inW m a b)).sum : Nat))), (21, .iv (.int .i64 i))],
      [.var 23 [.iv (.int .i64 x), .iv (.int .i64 y), .iv (.int .i64 z)], .var 29 [.iv (.int .i64 m.length), .iv (.int .i64 S), .iv (.sl 7 (rows.map rankV))]], 0⟩)
      (fun i => i ≤ D.length) (fun i => D.length - i) 0 (wk_by [0, 1] ?_) (by omega) ?_
    · (simp (maxSteps := 1000000) (disch := first | exact dq | fail) only [go_sem])
      rfl
    rintro i hi
    have hsle := hpre i
    by_cases hiD : i < D.length
    · have hc1 : (i : Int) < D.length := by omega
      obtain ⟨d, hd, hdW, hdc⟩ := hmem _ (getD_mem hiD)
      have hdS : (d : Int) < S := by
        obtain ⟨q, hq, hqd⟩ := cN_has (show 0 < cN (sy m) d b by omega)
        have := sy_lt hsym (show q < m.length by omega)
        omega
      have hCd := hCt d a b hdS hab hb
      have hdn := cN_le (sy m) d b
      have htk : ((D.take (i + 1)).map (inW m a b)).sum = ((D.take i).map (inW m a b)).sum + (cN (sy m) d b - cN (sy m) d a) := by
        rw [take_snoc D hiD, hd, List.map_append, List.sum_append, List.map_cons, List.map_nil, List.sum_cons, List.sum_nil]
        unfold inW
        rw [Int.toNat_natCast]; omega
      have hadd : ((((D.take i).map (inW m a b)).sum : Nat) : Int) + ((cN (sy m) d b : Nat) - (cN (sy m) d a : Nat)) = (((D.take (i + 1)).map (inW m a b)).sum : Nat) := by omega
      have hlt1 : ¬ (((cN (sy m) d b : Nat) : Int) - (cN (sy m) d a : Nat) < 1) := by omega
      by_cases hi0 : i = 0
      · have hi0' : ¬ ((i : Int) > 0) := by omega
        (repeat' (first
    | ((first | with_reducible (first | refine aw_seq ?_ | refine aw_region (aops_run ?_)) | (with_reducible refine aw_regionD (fun _ => .p) mixed ?_ (dops_run ?_); (· kernel_rfl)) | (with_reducible refine aw_regionD (fun _ => .r) mixed ?_ (dops_run ?_); (· kernel_rfl)) | with_reducible (first | refine aw_condK ?_ | refine aw_skip ?_ | refine aw_ret ?_ | refine aw_exit ?_ | refine aw_label ?_ | refine aw_block ?_ | refine aw_scope ?_ | refine And.intro ?_ ?_)) <;> (try (simp (maxSteps := 1000000) (disch := first | exact dq | fail) only [go_sem, hc1, hd, decide_true])))
    | (with_reducible (first | refine wantK_split (fun h => ?_) (fun h => ?_) | refine condK_split (fun h => ?_) (fun h => ?_) | refine pickV_split (fun h => ?_) (fun h => ?_)) <;> (try (simp (maxSteps := 1000000) (disch := first | exact dq | fail) only [go_sem] at h)) <;> (try (simp (maxSteps := 1000000) (disch := first | exact dq | fail) only [go_sem, h, hc1, hd, decide_true])))))
        all_goals (try omega)
        ((first | with_reducible apply left_callf | with_reducible apply leftD_callf | with_reducible apply leftF_callf); (· with_reducible rfl); (· (simp (maxSteps := 1000000) (disch := first | exact dq | fail) only [go_sem]) <;> rfl); (· exact hCd); try (simp (maxSteps := 1000000) (disch := first | exact dq | fail) only [go_sem]))
        (repeat' (first
    | ((first | with_reducible (first | refine aw_seq ?_ | refine aw_region (aops_run ?_)) | (with_reducible refine aw_regionD (fun _ => .p) mixed ?_ (dops_run ?_); (· kernel_rfl)) | (with_reducible refine aw_regionD (fun _ => .r) mixed ?_ (dops_run ?_); (· kernel_rfl)) | with_reducible (first | refine aw_condK ?_ | refine aw_skip ?_ | refine aw_ret ?_ | refine aw_exit ?_ | refine aw_label ?_ | refine aw_block ?_ | refine aw_scope ?_ | refine And.intro ?_ ?_)) <;> (try (simp (maxSteps := 1000000) (disch := first | exact dq | fail) only [go_sem, hlt1, hi0', hadd, decide_false])))
    | (with_reducible (first | refine wantK_split (fun h => ?_) (fun h => ?_) | refine condK_split (fun h => ?_) (fun h => ?_) | refine pickV_split (fun h => ?_) (fun h => ?_)) <;> (try (simp (maxSteps := 1000000) (disch := first | exact dq | fail) only [go_sem] at h)) <;> (try (simp (maxSteps := 1000000) (disch := first | exact dq | fail) only [go_sem, h, hlt1, hi0', hadd, decide_false])))))
        all_goals (try omega)
        refine ⟨i + 1, by omega, wk_by [0, 1] ?_, by omega⟩
        (simp (maxSteps := 1000000) (disch := first | exact dq | fail) only [go_sem])
      · have hi0' : (i : Int) > 0 := by omega
        have hi1 : ((i : Int) - 1).toNat = i - 1 := by omega
        have hge : ¬ (D.getD (i - 1) 0 ≥ (d : Int)) := by
          have := List.pairwise_iff_getElem.1 hup (i - 1) i (by omega) hiD (by omega)
          have e1 : D.getD (i - 1) 0 = D[i - 1] := by simp [List.getD, List.getElem?_eq_getElem (show i - 1 < D.length by omega)]
          have e2 : D.getD i 0 = D[i] := by simp [List.getD, List.getElem?_eq_getElem hiD]
          omega
        (repeat' (first
    | ((first | with_reducible (first | refine aw_seq ?_ | refine aw_region (aops_run ?_)) | (with_reducible refine aw_regionD (fun _ => .p) mixed ?_ (dops_run ?_); (· kernel_rfl)) | (with_reducible refine aw_regionD (fun _ => .r) mixed ?_ (dops_run ?_); (· kernel_rfl)) | with_reducible (first | refine aw_condK ?_ | refine aw_skip ?_ | refine aw_ret ?_ | refine aw_exit ?_ | refine aw_label ?_ | refine aw_block ?_ | refine aw_scope ?_ | refine And.intro ?_ ?_)) <;> (try (simp (maxSteps := 1000000) (disch := first | exact dq | fail) only [go_sem, hc1, hd, decide_true])))
    | (with_reducible (first | refine wantK_split (fun h => ?_) (fun h => ?_) | refine condK_split (fun h => ?_) (fun h => ?_) | refine pickV_split (fun h => ?_) (fun h => ?_)) <;> (try (simp (maxSteps := 1000000) (disch := first | exact dq | fail) only [go_sem] at h)) <;> (try (simp (maxSteps := 1000000) (disch := first | exact dq | fail) only [go_sem, h, hc1, hd, decide_true])))))
        all_goals (try omega)
        ((first | with_reducible apply left_callf | with_reducible apply leftD_callf | with_reducible apply leftF_callf); (· with_reducible rfl); (· (simp (maxSteps := 1000000) (disch := first | exact dq | fail) only [go_sem]) <;> rfl); (· exact hCd); try (simp (maxSteps := 1000000) (disch := first | exact dq | fail) only [go_sem]))
        (repeat' (first
    | ((first | with_reducible (first | refine aw_seq ?_ | refine aw_region (aops_run ?_)) | (with_reducible refine aw_regionD (fun _ => .p) mixed ?_ (dops_run ?_); (· kernel_rfl)) | (with_reducible refine aw_regionD (fun _ => .r) mixed ?_ (dops_run ?_); (· kernel_rfl)) | with_reducible (first | refine aw_condK ?_ | refine aw_skip ?_ | refine aw_ret ?_ | refine aw_exit ?_ | refine aw_label ?_ | refine aw_block ?_ | refine aw_scope ?_ | refine And.intro ?_ ?_)) <;> (try (simp (maxSteps := 1000000) (disch := first | exact dq | fail) only [go_sem, hlt1, hi0', hi1, hd, hge, hadd, decide_true, decide_false])))
    | (with_reducible (first | refine wantK_split (fun h => ?_) (fun h => ?_) | refine condK_split (fun h => ?_) (fun h => ?_) | refine pickV_split (fun h => ?_) (fun h => ?_)) <;> (try (simp (maxSteps := 1000000) (disch := first | exact dq | fail) only [go_sem] at h)) <;> (try (simp (maxSteps := 1000000) (disch := first | exact dq | fail) only [go_sem, h, hlt1, hi0', hi1, hd, hge, hadd, decide_true, decide_false])))))
        all_goals (try omega)
        refine ⟨i + 1, by omega, wk_by [0, 1] ?_, by omega⟩
        (simp (maxSteps := 1000000) (disch := first | exact dq | fail) only [go_sem])
    · obtain rfl : i = D.length := by omega
      have hc1 : ¬ ((D.length : Int) < D.length) := by omega
      rw [List.take_length]
      have hM2 : (((D.map (inW m a b)).sum : Nat) : Int) = (b : Int) - a := by omega
      have e3 : ((cN (sy m) c a : Nat) : Int) + ((cN (sy m) c b : Nat) - (cN (sy m) c a : Nat)) + ((cN (sy m) c m.length : Nat) - (cN (sy m) c b : Nat)) = (cN (sy m) c m.length : Nat) := by omega
      (repeat' (first
    | ((first | with_reducible (first | refine aw_seq ?_ | refine aw_region (aops_run ?_)) | (with_reducible refine aw_regionD (fun _ => .p) mixed ?_ (dops_run ?_); (· kernel_rfl)) | (with_reducible refine aw_regionD (fun _ => .r) mixed ?_ (dops_run ?_); (· kernel_rfl)) | with_reducible (first | refine aw_condK ?_ | refine aw_skip ?_ | refine aw_ret ?_ | refine aw_exit ?_ | refine aw_label ?_ | refine aw_block ?_ | refine aw_scope ?_ | refine And.intro ?_ ?_)) <;> (try (simp (maxSteps := 1000000) (disch := first | exact dq | fail) only [go_sem, hc1, e3, decide_false])))
    | (with_reducible (first | refine wantK_split (fun h => ?_) (fun h => ?_) | refine condK_split (fun h => ?_) (fun h => ?_) | refine pickV_split (fun h => ?_) (fun h => ?_)) <;> (try (simp (maxSteps := 1000000) (disch := first | exact dq | fail) only [go_sem] at h)) <;> (try (simp (maxSteps := 1000000) (disch := first | exact dq | fail) only [go_sem, h, hc1, e3, decide_false])))))
      all_goals (try omega)
      ((first | with_reducible apply left_callf | with_reducible apply leftD_callf | with_reducible apply leftF_callf); (· with_reducible rfl); (· (simp (maxSteps := 1000000) (disch := first | exact dq | fail) only [go_sem]) <;> rfl); (· exact hR); try (simp (maxSteps := 1000000) (disch := first | exact dq | fail) only [go_sem]))
      (repeat' (first
    | ((first | with_reducible (first | refine aw_seq ?_ | refine aw_region (aops_run ?_)) | (with_reducible refine aw_regionD (fun _ => .p) mixed ?_ (dops_run ?_); (· kernel_rfl)) | (with_reducible refine aw_regionD (fun _ => .r) mixed ?_ (dops_run ?_); (· kernel_rfl)) | with_reducible (first | refine aw_condK ?_ | refine aw_skip ?_ | refine aw_ret ?_ | refine aw_exit ?_ | refine aw_label ?_ | refine aw_block ?_ | refine aw_scope ?_ | refine And.intro ?_ ?_)) <;> (try (simp (maxSteps := 1000000) (disch := first | exact dq | fail) only [go_sem, hM2, eq_self, decide_true])))
    | (with_reducible (first | refine wantK_split (fun h => ?_) (fun h => ?_) | refine condK_split (fun h => ?_) (fun h => ?_) | refine pickV_split (fun h => ?_) (fun h => ?_)) <;> (try (simp (maxSteps := 1000000) (disch := first | exact dq | fail) only [go_sem] at h)) <;> (try (simp (maxSteps := 1000000) (disch := first | exact dq | fail) only [go_sem, h, hM2, eq_self, decide_true])))))
      all_goals (try omega))
theorem WaveParts_three (l : List Int) (sz : Int) (q : List Int) (hq : q.length = 3) : PCalls Try.prog 4 [inl l, .int .i64 sz, .agg (q.map (IV.int .i64))] (.bool true) := by
  match q, hq with
  | [x, y, z], _ => exact WaveParts_spec l sz x y z
end Go.Proofs.Ytkfjldkememadaa.AM
