
/- Chapter 4: the reference's Distinct. No condition but lengths that fit. -/
import Derived.Test.YtkfjldkememadaaWB
import Derived.Test.YtkfjldkememadaaW9
set_option linter.unusedVariables false
set_option linter.unusedSimpArgs false
set_option maxRecDepth 20000
namespace Go.Proofs.Ytkfjldkememadaa.AM
open Go Go.RowKit

def hasD (l : List Int) (f t c : Int) : Nat → Bool
  | 0 => false
  | k + 1 => hasD l f t c k || (decide ((k : Int) ≥ f) && decide ((k : Int) < t) && decide (l.getD k 0 = c))
theorem hasD_iff (l : List Int) (f t c : Int) : ∀ k, hasD l f t c k = true ↔ ∃ j : Nat, j < k ∧ f ≤ j ∧ (j : Int) < t ∧ l.getD j 0 = c
  | 0 => by simp [hasD]
  | k + 1 => by
    rw [hasD, Bool.or_eq_true, hasD_iff l f t c k, Bool.and_eq_true, Bool.and_eq_true, decide_eq_true_eq, decide_eq_true_eq, decide_eq_true_eq]
    constructor
    · rintro (⟨j, h1, h2⟩ | ⟨⟨h1, h2⟩, h3⟩)
      · exact ⟨j, by omega, h2⟩
      · exact ⟨k, by omega, h1, h2, h3⟩
    · rintro ⟨j, h1, h2, h3, h4⟩
      by_cases e : j = k
      · subst e; exact .inr ⟨⟨h2, h3⟩, h4⟩
      · exact .inl ⟨j, by omega, h2, h3, h4⟩
theorem cN_in {K : Nat → Nat} {c a : Nat} : ∀ {b : Nat}, a ≤ b → (cN K c a < cN K c b ↔ ∃ j, a ≤ j ∧ j < b ∧ K j = c)
  | 0, h => by
    obtain rfl : a = 0 := by omega
    constructor
    · intro h; exact absurd h (Nat.lt_irrefl _)
    · rintro ⟨j, h1, h2, _⟩; omega
  | b + 1, h => by
    by_cases e : a = b + 1
    · subst e
      constructor
      · intro h; exact absurd h (Nat.lt_irrefl _)
      · rintro ⟨j, h1, h2, _⟩; omega
    · have ih := cN_in (K := K) (c := c) (a := a) (b := b) (by omega)
      have hm := cN_mono K c (show a ≤ b by omega)
      rw [cN]
      by_cases g : K b = c
      · rw [if_pos g]
        exact ⟨fun _ => ⟨b, by omega, by omega, g⟩, fun _ => by omega⟩
      · rw [if_neg g, Nat.add_zero, ih]
        constructor
        · rintro ⟨j, h1, h2, h3⟩; exact ⟨j, h1, by omega, h3⟩
        · rintro ⟨j, h1, h2, h3⟩
          refine ⟨j, h1, ?_, h3⟩
          by_cases e2 : j = b
          · subst e2; exact absurd h3 g
          · omega
theorem most_le : ∀ (l : List Int) (z B : Int), z ≤ B → (∀ x ∈ l, x ≤ B) → l.foldl max z ≤ B
  | [], z, B, h, _ => h
  | x :: l, z, B, h, hx => most_le l (max z x) B (by have := hx x (List.mem_cons_self ..); omega) (fun y hy => hx y (List.mem_cons_of_mem _ hy))
theorem most_ge : ∀ (l : List Int) (z : Int), z ≤ l.foldl max z ∧ ∀ x ∈ l, x ≤ l.foldl max z
  | [], z => ⟨Int.le_refl _, by simp⟩
  | x :: l, z => by
    obtain ⟨h1, h2⟩ := most_ge l (max z x)
    refine ⟨by simp only [List.foldl_cons]; omega, fun y hy => ?_⟩
    rcases List.mem_cons.1 hy with rfl | hy
    · simp only [List.foldl_cons]; omega
    · exact h2 y hy
theorem has_dist {l : List Int} {W : Nat} (hs : ∀ x ∈ l, 0 ≤ x ∧ x.toNat < 2 ^ W) (f t : Int) :
    ((List.range ((mostI l).toNat + 1)).filter (fun (c : Nat) => hasD l f t c l.length)).map (fun (c : Nat) => (c : Int)) = distL l W (clI l.length f) (clI l.length (max t (clI l.length f))) := by
  have hle := clI_le l.length f
  have hle2 := clI_le l.length (max t (clI l.length f))
  have hab : clI l.length f ≤ clI l.length (max t (clI l.length f)) := by unfold clI; omega
  have heq : ∀ c : Nat, hasD l f t c l.length = inR l (clI l.length f) (clI l.length (max t (clI l.length f))) c := fun c => by
    rw [Bool.eq_iff_iff, hasD_iff]
    unfold inR
    rw [decide_eq_true_eq, cN_in hab]
    constructor
    · rintro ⟨j, h1, h2, h3, h4⟩
      refine ⟨j, ?_, ?_, by unfold sy; omega⟩
      · unfold clI; omega
      · unfold clI; omega
    · rintro ⟨j, h1, h2, h3⟩
      have hj : j < l.length := by omega
      have := (hs _ (getD_mem hj)).1
      refine ⟨j, hj, ?_, ?_, by unfold sy at h3; omega⟩
      · unfold clI at h1; omega
      · unfold clI at h1 h2; omega
  unfold distL
  simp only [heq]
  congr 1
  obtain ⟨hm0, hmx⟩ := most_ge l 0
  have hml := most_le l 0 ((2 ^ W : Nat) - 1) (by have := Nat.pow_pos (n := W) (show 0 < 2 by decide); omega) (fun x hx => by have := hs x hx; omega)
  change 0 ≤ mostI l at hm0
  change ∀ x ∈ l, x ≤ mostI l at hmx
  change mostI l ≤ _ at hml
  obtain ⟨e, he⟩ : ∃ e, 2 ^ W = (mostI l).toNat + 1 + e := ⟨2 ^ W - ((mostI l).toNat + 1), by omega⟩
  generalize hM : (mostI l).toNat + 1 = M at *
  rw [he, List.range_add, List.filter_append]
  rw [show List.filter (inR l (clI l.length f) (clI l.length (max t (clI l.length f)))) (List.map (fun x => M + x) (List.range e)) = [] from List.filter_eq_nil_iff.2 (fun c hc => by
    obtain ⟨x, _, rfl⟩ := List.mem_map.1 hc
    unfold inR
    rw [decide_eq_true_eq, cN_in hab]
    rintro ⟨j, h1, h2, h3⟩
    have hj : j < l.length := by omega
    have := hmx _ (getD_mem hj)
    unfold sy at h3
    omega), List.append_nil]
def hasL (l : List Int) (f t : Int) (k : Nat) : List Int := ((List.range k).filter (fun (c : Nat) => hasD l f t c l.length)).map (fun (c : Nat) => (c : Int))
theorem hasL_succ (l : List Int) (f t : Int) (k : Nat) : hasL l f t (k + 1) = hasL l f t k ++ (if hasD l f t k l.length = true then [(k : Int)] else []) := by
  unfold hasL
  rw [List.range_succ, List.filter_append, List.map_append]
  congr 1
  by_cases h : hasD l f t k l.length = true
  · rw [if_pos h]; simp [h]
  · rw [if_neg h]; simp [h]
theorem hasL_len (l : List Int) (f t : Int) (k : Nat) : (hasL l f t k).length ≤ k := by
  unfold hasL
  rw [List.length_map]
  exact Nat.le_trans (List.length_filter_le _ _) (by rw [List.length_range]; exact Nat.le_refl _)
set_option maxHeartbeats 2000000 in
theorem RefDist_spec (l : List Int) (f t : Int) (hl : l.length ≤ 1000000) (hm : mostI l ≤ 1000000) : PCalls Try.prog 21 [inl l, .int .i64 f, .int .i64 t] (inl (hasL l f t ((mostI l).toNat + 1))) := by
  have hM := RefMost_spec l hl
  have hm0 : 0 ≤ mostI l := (most_ge l 0).1
  obtain ⟨M, hMM⟩ : ∃ M : Nat, mostI l = M := ⟨(mostI l).toNat, by omega⟩
  rw [hMM] at hM
  rw [hMM, Int.toNat_natCast]
  refine PCalls.of_aw Try.func21 rfl (by unfold Callable; kernel_rfl) (by kernel_rfl) (by simp [Try.ntmps21]) ?_; rw [Try.ntmps21, Try.results21]; (simp (maxSteps := 1000000) (disch := first | exact dq | fail) only [go_sem])
  (repeat' (first
    | ((first | with_reducible (first | refine aw_seq ?_ | refine aw_region (aops_run ?_)) | (with_reducible refine aw_regionD (fun _ => .p) mixed ?_ (dops_run ?_); (· kernel_rfl)) | (with_reducible refine aw_regionD (fun _ => .r) mixed ?_ (dops_run ?_); (· kernel_rfl)) | with_reducible (first | refine aw_condK ?_ | refine aw_skip ?_ | refine aw_ret ?_ | refine aw_exit ?_ | refine aw_label ?_ | refine aw_block ?_ | refine aw_scope ?_ | refine And.intro ?_ ?_)) <;> (try (simp (maxSteps := 1000000) (disch := first | exact dq | fail) only [go_sem])))
    | (with_reducible (first | refine wantK_split (fun h => ?_) (fun h => ?_) | refine condK_split (fun h => ?_) (fun h => ?_) | refine pickV_split (fun h => ?_) (fun h => ?_)) <;> (try (simp (maxSteps := 1000000) (disch := first | exact dq | fail) only [go_sem] at h)) <;> (try (simp (maxSteps := 1000000) (disch := first | exact dq | fail) only [go_sem, h])))))
  refine aw_loop (α := Nat) (fun c => ⟨48, sl [(0, .iv (inl l)), (1, .iv (.int .i64 f)), (2, .iv (.int .i64 t)), (7, .msl 0 0 (hasL l f t c).length (hasL l f t c).length), (8, .iv (.int .i64 c))], [.row true 3 1 ((hasL l f t c).map (IV.int .i64))], 0⟩)
    (fun c => c ≤ M + 1) (fun c => M + 1 - c) 0 (wk_by [1] ?_) (by omega) ?_
  · (simp (maxSteps := 1000000) (disch := first | exact dq | fail) only [go_sem])
    exact ⟨rfl, rfl⟩
  rintro c hc
  have hll := hasL_len l f t c
  have hsu := hasL_succ l f t c
  by_cases h : c ≤ M
  · have hc1 : (c : Int) ≤ M := by omega
    (repeat' (first
    | ((first | with_reducible (first | refine aw_seq ?_ | refine aw_region (aops_run ?_)) | (with_reducible refine aw_regionD (fun _ => .p) mixed ?_ (dops_run ?_); (· kernel_rfl)) | (with_reducible refine aw_regionD (fun _ => .r) mixed ?_ (dops_run ?_); (· kernel_rfl)) | with_reducible (first | refine aw_condK ?_ | refine aw_skip ?_ | refine aw_ret ?_ | refine aw_exit ?_ | refine aw_label ?_ | refine aw_block ?_ | refine aw_scope ?_ | refine And.intro ?_ ?_)) <;> (try (simp (maxSteps := 1000000) (disch := first | exact dq | fail) only [go_sem])))
    | (with_reducible (first | refine wantK_split (fun h => ?_) (fun h => ?_) | refine condK_split (fun h => ?_) (fun h => ?_) | refine pickV_split (fun h => ?_) (fun h => ?_)) <;> (try (simp (maxSteps := 1000000) (disch := first | exact dq | fail) only [go_sem] at h)) <;> (try (simp (maxSteps := 1000000) (disch := first | exact dq | fail) only [go_sem, h])))))
    ((first | with_reducible apply left_callf | with_reducible apply leftD_callf | with_reducible apply leftF_callf); (· with_reducible rfl); (· (simp (maxSteps := 1000000) (disch := first | exact dq | fail) only [go_sem]) <;> rfl); (· exact hM); try (simp (maxSteps := 1000000) (disch := first | exact dq | fail) only [go_sem]))
    (repeat' (first
    | ((first | with_reducible (first | refine aw_seq ?_ | refine aw_region (aops_run ?_)) | (with_reducible refine aw_regionD (fun _ => .p) mixed ?_ (dops_run ?_); (· kernel_rfl)) | (with_reducible refine aw_regionD (fun _ => .r) mixed ?_ (dops_run ?_); (· kernel_rfl)) | with_reducible (first | refine aw_condK ?_ | refine aw_skip ?_ | refine aw_ret ?_ | refine aw_exit ?_ | refine aw_label ?_ | refine aw_block ?_ | refine aw_scope ?_ | refine And.intro ?_ ?_)) <;> (try (simp (maxSteps := 1000000) (disch := first | exact dq | fail) only [go_sem, hc1, decide_true])))
    | (with_reducible (first | refine wantK_split (fun h => ?_) (fun h => ?_) | refine condK_split (fun h => ?_) (fun h => ?_) | refine pickV_split (fun h => ?_) (fun h => ?_)) <;> (try (simp (maxSteps := 1000000) (disch := first | exact dq | fail) only [go_sem] at h)) <;> (try (simp (maxSteps := 1000000) (disch := first | exact dq | fail) only [go_sem, h, hc1, decide_true])))))
    all_goals (try omega)
    refine aw_postE (β := Unit) (fun _ => ⟨48, sl [(0, .iv (inl l)), (1, .iv (.int .i64 f)), (2, .iv (.int .i64 t)), (7, .msl 0 0 (hasL l f t c).length (hasL l f t c).length), (8, .iv (.int .i64 c)), (9, .iv (.bool (hasD l f t c l.length)))], [.row true 3 1 ((hasL l f t c).map (IV.int .i64))], 0⟩) (fun _ => True) ?_ ?_
    · refine aw_loop (α := Nat) (fun k => ⟨48, sl [(0, .iv (inl l)), (1, .iv (.int .i64 f)), (2, .iv (.int .i64 t)), (7, .msl 0 0 (hasL l f t c).length (hasL l f t c).length), (8, .iv (.int .i64 c)), (9, .iv (.bool (hasD l f t c k))), (10, .iv (.int .i64 k))], [.row true 3 1 ((hasL l f t c).map (IV.int .i64))], 0⟩)
        (fun k => k ≤ l.length) (fun k => l.length - k) 0 (wk_by [0] ?_) (by omega) ?_
      · (simp (maxSteps := 1000000) (disch := first | exact dq | fail) only [go_sem])
        rfl
      rintro k hk
      by_cases hkl : k < l.length
      · have k1 : (k : Int) < l.length := by omega
        have hd : hasD l f t c (k + 1) = (hasD l f t c k || (decide ((k : Int) ≥ f) && decide ((k : Int) < t) && decide (l.getD k 0 = c))) := rfl
        have fin : ∀ b, hasD l f t c (k + 1) = b → True := fun _ _ => trivial
        cases hb : hasD l f t c k with
        | true =>
          rw [hb, Bool.true_or] at hd
          (repeat' (first
    | ((first | with_reducible (first | refine aw_seq ?_ | refine aw_region (aops_run ?_)) | (with_reducible refine aw_regionD (fun _ => .p) mixed ?_ (dops_run ?_); (· kernel_rfl)) | (with_reducible refine aw_regionD (fun _ => .r) mixed ?_ (dops_run ?_); (· kernel_rfl)) | with_reducible (first | refine aw_condK ?_ | refine aw_skip ?_ | refine aw_ret ?_ | refine aw_exit ?_ | refine aw_label ?_ | refine aw_block ?_ | refine aw_scope ?_ | refine And.intro ?_ ?_)) <;> (try (simp (maxSteps := 1000000) (disch := first | exact dq | fail) only [go_sem, k1, decide_true])))
    | (with_reducible (first | refine wantK_split (fun h => ?_) (fun h => ?_) | refine condK_split (fun h => ?_) (fun h => ?_) | refine pickV_split (fun h => ?_) (fun h => ?_)) <;> (try (simp (maxSteps := 1000000) (disch := first | exact dq | fail) only [go_sem] at h)) <;> (try (simp (maxSteps := 1000000) (disch := first | exact dq | fail) only [go_sem, h, k1, decide_true])))))
          all_goals (try omega)
          refine ⟨k + 1, by omega, wk_by [0] ?_, by omega⟩
          (simp (maxSteps := 1000000) (disch := first | exact dq | fail) only [go_sem, hd])
        | false =>
          rw [hb, Bool.false_or] at hd
          by_cases p1 : (k : Int) ≥ f
          · by_cases p2 : (k : Int) < t
            · by_cases p3 : l.getD k 0 = c
              · rw [decide_eq_true p1, decide_eq_true p2, decide_eq_true p3] at hd
                (repeat' (first
    | ((first | with_reducible (first | refine aw_seq ?_ | refine aw_region (aops_run ?_)) | (with_reducible refine aw_regionD (fun _ => .p) mixed ?_ (dops_run ?_); (· kernel_rfl)) | (with_reducible refine aw_regionD (fun _ => .r) mixed ?_ (dops_run ?_); (· kernel_rfl)) | with_reducible (first | refine aw_condK ?_ | refine aw_skip ?_ | refine aw_ret ?_ | refine aw_exit ?_ | refine aw_label ?_ | refine aw_block ?_ | refine aw_scope ?_ | refine And.intro ?_ ?_)) <;> (try (simp (maxSteps := 1000000) (disch := first | exact dq | fail) only [go_sem, k1, eq_true p1, eq_true p2, eq_true p3, decide_true])))
    | (with_reducible (first | refine wantK_split (fun h => ?_) (fun h => ?_) | refine condK_split (fun h => ?_) (fun h => ?_) | refine pickV_split (fun h => ?_) (fun h => ?_)) <;> (try (simp (maxSteps := 1000000) (disch := first | exact dq | fail) only [go_sem] at h)) <;> (try (simp (maxSteps := 1000000) (disch := first | exact dq | fail) only [go_sem, h, k1, eq_true p1, eq_true p2, eq_true p3, decide_true])))))
                all_goals (try omega)
                refine ⟨k + 1, by omega, wk_by [0] ?_, by omega⟩
                (simp (maxSteps := 1000000) (disch := first | exact dq | fail) only [go_sem, hd, Bool.and_true])
              · rw [decide_eq_true p1, decide_eq_true p2, decide_eq_false p3] at hd
                (repeat' (first
    | ((first | with_reducible (first | refine aw_seq ?_ | refine aw_region (aops_run ?_)) | (with_reducible refine aw_regionD (fun _ => .p) mixed ?_ (dops_run ?_); (· kernel_rfl)) | (with_reducible refine aw_regionD (fun _ => .r) mixed ?_ (dops_run ?_); (· kernel_rfl)) | with_reducible (first | refine aw_condK ?_ | refine aw_skip ?_ | refine aw_ret ?_ | refine aw_exit ?_ | refine aw_label ?_ | refine aw_block ?_ | refine aw_scope ?_ | refine And.intro ?_ ?_)) <;> (try (simp (maxSteps := 1000000) (disch := first | exact dq | fail) only [go_sem, k1, eq_true p1, eq_true p2, eq_false p3, decide_true, decide_false])))
    | (with_reducible (first | refine wantK_split (fun h => ?_) (fun h => ?_) | refine condK_split (fun h => ?_) (fun h => ?_) | refine pickV_split (fun h => ?_) (fun h => ?_)) <;> (try (simp (maxSteps := 1000000) (disch := first | exact dq | fail) only [go_sem] at h)) <;> (try (simp (maxSteps := 1000000) (disch := first | exact dq | fail) only [go_sem, h, k1, eq_true p1, eq_true p2, eq_false p3, decide_true, decide_false])))))
                all_goals (try omega)
                refine ⟨k + 1, by omega, wk_by [0] ?_, by omega⟩
                (simp (maxSteps := 1000000) (disch := first | exact dq | fail) only [go_sem, hd, Bool.and_false])
            · rw [decide_eq_true p1, decide_eq_false p2] at hd
              (repeat' (first
    | ((first | with_reducible (first | refine aw_seq ?_ | refine aw_region (aops_run ?_)) | (with_reducible refine aw_regionD (fun _ => .p) mixed ?_ (dops_run ?_); (· kernel_rfl)) | (with_reducible refine aw_regionD (fun _ => .r) mixed ?_ (dops_run ?_); (· kernel_rfl)) | with_reducible (first | refine aw_condK ?_ | refine aw_skip ?_ | refine aw_ret ?_ | refine aw_exit ?_ | refine aw_label ?_ | refine aw_block ?_ | refine aw_scope ?_ | refine And.intro ?_ ?_)) <;> (try (simp (maxSteps := 1000000) (disch := first | exact dq | fail) only [go_sem, k1, eq_true p1, eq_false p2, decide_true, decide_false])))
    | (with_reducible (first | refine wantK_split (fun h => ?_) (fun h => ?_) | refine condK_split (fun h => ?_) (fun h => ?_) | refine pickV_split (fun h => ?_) (fun h => ?_)) <;> (try (simp (maxSteps := 1000000) (disch := first | exact dq | fail) only [go_sem] at h)) <;> (try (simp (maxSteps := 1000000) (disch := first | exact dq | fail) only [go_sem, h, k1, eq_true p1, eq_false p2, decide_true, decide_false])))))
              all_goals (try omega)
              refine ⟨k + 1, by omega, wk_by [0] ?_, by omega⟩
              (simp (maxSteps := 1000000) (disch := first | exact dq | fail) only [go_sem, hd, Bool.and_false, Bool.false_and])
          · rw [decide_eq_false p1] at hd
            (repeat' (first
    | ((first | with_reducible (first | refine aw_seq ?_ | refine aw_region (aops_run ?_)) | (with_reducible refine aw_regionD (fun _ => .p) mixed ?_ (dops_run ?_); (· kernel_rfl)) | (with_reducible refine aw_regionD (fun _ => .r) mixed ?_ (dops_run ?_); (· kernel_rfl)) | with_reducible (first | refine aw_condK ?_ | refine aw_skip ?_ | refine aw_ret ?_ | refine aw_exit ?_ | refine aw_label ?_ | refine aw_block ?_ | refine aw_scope ?_ | refine And.intro ?_ ?_)) <;> (try (simp (maxSteps := 1000000) (disch := first | exact dq | fail) only [go_sem, k1, eq_false p1, decide_true, decide_false])))
    | (with_reducible (first | refine wantK_split (fun h => ?_) (fun h => ?_) | refine condK_split (fun h => ?_) (fun h => ?_) | refine pickV_split (fun h => ?_) (fun h => ?_)) <;> (try (simp (maxSteps := 1000000) (disch := first | exact dq | fail) only [go_sem] at h)) <;> (try (simp (maxSteps := 1000000) (disch := first | exact dq | fail) only [go_sem, h, k1, eq_false p1, decide_true, decide_false])))))
            all_goals (try omega)
            refine ⟨k + 1, by omega, wk_by [0] ?_, by omega⟩
            (simp (maxSteps := 1000000) (disch := first | exact dq | fail) only [go_sem, hd, Bool.false_and])
      · obtain rfl : k = l.length := by omega
        have k1 : ¬ (l.length : Int) < l.length := by omega
        (repeat' (first
    | ((first | with_reducible (first | refine aw_seq ?_ | refine aw_region (aops_run ?_)) | (with_reducible refine aw_regionD (fun _ => .p) mixed ?_ (dops_run ?_); (· kernel_rfl)) | (with_reducible refine aw_regionD (fun _ => .r) mixed ?_ (dops_run ?_); (· kernel_rfl)) | with_reducible (first | refine aw_condK ?_ | refine aw_skip ?_ | refine aw_ret ?_ | refine aw_exit ?_ | refine aw_label ?_ | refine aw_block ?_ | refine aw_scope ?_ | refine And.intro ?_ ?_)) <;> (try (simp (maxSteps := 1000000) (disch := first | exact dq | fail) only [go_sem, k1, decide_false])))
    | (with_reducible (first | refine wantK_split (fun h => ?_) (fun h => ?_) | refine condK_split (fun h => ?_) (fun h => ?_) | refine pickV_split (fun h => ?_) (fun h => ?_)) <;> (try (simp (maxSteps := 1000000) (disch := first | exact dq | fail) only [go_sem] at h)) <;> (try (simp (maxSteps := 1000000) (disch := first | exact dq | fail) only [go_sem, h, k1, decide_false])))))
        all_goals (try omega)
        refine ⟨(), wk_by [0] ?_⟩
        (simp (maxSteps := 1000000) (disch := first | exact dq | fail) only [go_sem])
    · rintro _ _
      cases hb : hasD l f t c l.length with
      | true =>
        rw [hb, if_pos rfl] at hsu
        have hl1 : (hasL l f t (c + 1)).length = (hasL l f t c).length + 1 := by rw [hsu]; simp
        (repeat' (first
    | ((first | with_reducible (first | refine aw_seq ?_ | refine aw_region (aops_run ?_)) | (with_reducible refine aw_regionD (fun _ => .p) mixed ?_ (dops_run ?_); (· kernel_rfl)) | (with_reducible refine aw_regionD (fun _ => .r) mixed ?_ (dops_run ?_); (· kernel_rfl)) | with_reducible (first | refine aw_condK ?_ | refine aw_skip ?_ | refine aw_ret ?_ | refine aw_exit ?_ | refine aw_label ?_ | refine aw_block ?_ | refine aw_scope ?_ | refine And.intro ?_ ?_)) <;> (try (simp (maxSteps := 1000000) (disch := first | exact dq | fail) only [go_sem])))
    | (with_reducible (first | refine wantK_split (fun h => ?_) (fun h => ?_) | refine condK_split (fun h => ?_) (fun h => ?_) | refine pickV_split (fun h => ?_) (fun h => ?_)) <;> (try (simp (maxSteps := 1000000) (disch := first | exact dq | fail) only [go_sem] at h)) <;> (try (simp (maxSteps := 1000000) (disch := first | exact dq | fail) only [go_sem, h])))))
        all_goals (try omega)
        refine ⟨c + 1, by omega, wk_by [0] ?_, by omega⟩
        (simp (maxSteps := 1000000) (disch := first | exact dq | fail) only [go_sem, hl1, hsu, List.map_append])
      | false =>
        rw [hb, if_neg (by decide), List.append_nil] at hsu
        (repeat' (first
    | ((first | with_reducible (first | refine aw_seq ?_ | refine aw_region (aops_run ?_)) | (with_reducible refine aw_regionD (fun _ => .p) mixed ?_ (dops_run ?_); (· kernel_rfl)) | (with_reducible refine aw_regionD (fun _ => .r) mixed ?_ (dops_run ?_); (· kernel_rfl)) | with_reducible (first | refine aw_condK ?_ | refine aw_skip ?_ | refine aw_ret ?_ | refine aw_exit ?_ | refine aw_label ?_ | refine aw_block ?_ | refine aw_scope ?_ | refine And.intro ?_ ?_)) <;> (try (simp (maxSteps := 1000000) (disch := first | exact dq | fail) only [go_sem])))
    | (with_reducible (first | refine wantK_split (fun h => ?_) (fun h => ?_) | refine condK_split (fun h => ?_) (fun h => ?_) | refine pickV_split (fun h => ?_) (fun h => ?_)) <;> (try (simp (maxSteps := 1000000) (disch := first | exact dq | fail) only [go_sem] at h)) <;> (try (simp (maxSteps := 1000000) (disch := first | exact dq | fail) only [go_sem, h])))))
        all_goals (try omega)
        refine ⟨c + 1, by omega, wk_by [0] ?_, by omega⟩
        (simp (maxSteps := 1000000) (disch := first | exact dq | fail) only [go_sem, hsu])
  · obtain rfl : c = M + 1 := by omega
    have hc1 : ¬ ((M : Int) + 1 ≤ M) := by omega
    (repeat' (first
    | ((first | with_reducible (first | refine aw_seq ?_ | refine aw_region (aops_run ?_)) | (with_reducible refine aw_regionD (fun _ => .p) mixed ?_ (dops_run ?_); (· kernel_rfl)) | (with_reducible refine aw_regionD (fun _ => .r) mixed ?_ (dops_run ?_); (· kernel_rfl)) | with_reducible (first | refine aw_condK ?_ | refine aw_skip ?_ | refine aw_ret ?_ | refine aw_exit ?_ | refine aw_label ?_ | refine aw_block ?_ | refine aw_scope ?_ | refine And.intro ?_ ?_)) <;> (try (simp (maxSteps := 1000000) (disch := first | exact dq | fail) only [go_sem])))
    | (with_reducible (first | refine wantK_split (fun h => ?_) (fun h => ?_) | refine condK_split (fun h => ?_) (fun h => ?_) | refine pickV_split (fun h => ?_) (fun h => ?_)) <;> (try (simp (maxSteps := 1000000) (disch := first | exact dq | fail) only [go_sem] at h)) <;> (try (simp (maxSteps := 1000000) (disch := first | exact dq | fail) only [go_sem, h])))))
    ((first | with_reducible apply left_callf | with_reducible apply leftD_callf | with_reducible apply leftF_callf); (· with_reducible rfl); (· (simp (maxSteps := 1000000) (disch := first | exact dq | fail) only [go_sem]) <;> rfl); (· exact hM); try (simp (maxSteps := 1000000) (disch := first | exact dq | fail) only [go_sem]))
    (repeat' (first
    | ((first | with_reducible (first | refine aw_seq ?_ | refine aw_region (aops_run ?_)) | (with_reducible refine aw_regionD (fun _ => .p) mixed ?_ (dops_run ?_); (· kernel_rfl)) | (with_reducible refine aw_regionD (fun _ => .r) mixed ?_ (dops_run ?_); (· kernel_rfl)) | with_reducible (first | refine aw_condK ?_ | refine aw_skip ?_ | refine aw_ret ?_ | refine aw_exit ?_ | refine aw_label ?_ | refine aw_block ?_ | refine aw_scope ?_ | refine And.intro ?_ ?_)) <;> (try (simp (maxSteps := 1000000) (disch := first | exact dq | fail) only [go_sem, hc1, decide_false])))
    | (with_reducible (first | refine wantK_split (fun h => ?_) (fun h => ?_) | refine condK_split (fun h => ?_) (fun h => ?_) | refine pickV_split (fun h => ?_) (fun h => ?_)) <;> (try (simp (maxSteps := 1000000) (disch := first | exact dq | fail) only [go_sem] at h)) <;> (try (simp (maxSteps := 1000000) (disch := first | exact dq | fail) only [go_sem, h, hc1, decide_false])))))
    all_goals (try omega)
    all_goals (try (rw [List.take_of_length_le (by simp)]))
end Go.Proofs.Ytkfjldkememadaa.AM
