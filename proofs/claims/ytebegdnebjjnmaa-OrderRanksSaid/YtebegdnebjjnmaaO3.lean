
/- Chapter 6: the document's Stable. No condition. -/
import Derived.Test.YtebegdnebjjnmaaO2
set_option linter.unusedVariables false
set_option linter.unusedSimpArgs false
set_option maxRecDepth 20000
namespace Go.Proofs.Ytebegdnebjjnmaa.AM
open Go Go.RowKit

theorem posK_succ (K : Nat → Nat) (i q : Nat) : posK K (i + 1) q = posK K i q + (if K i < K q then 1 else 0) := by
  unfold posK; simp only [cL]; omega
theorem pos_low {K : Nat → Nat} {i q : Nat} (hq : q < i) (h : K q ≤ K i) : posK K i q < cL K (K i + 1) i := by
  have h1 := cN_mono K (K q) (show q + 1 ≤ i by omega)
  have h2 := cL_next K (K q) i
  have h3 := cL_mono K i (show K q + 1 ≤ K i + 1 by omega)
  simp only [cN, if_true] at h1
  unfold posK; omega
theorem pos_high {K : Nat → Nat} {i q : Nat} (h : K i < K q) : cL K (K i + 1) i ≤ posK K i q := by
  have h3 := cL_mono K i (show K i + 1 ≤ K q by omega)
  unfold posK; omega
def insAt (D : List Int) (k i : Nat) : List Int := D.take k ++ ((i : Int) :: D.drop k)
theorem insAt_len {D : List Int} {k i : Nat} (h : k ≤ D.length) : (insAt D k i).length = D.length + 1 := by
  unfold insAt; rw [List.length_append, List.length_cons, List.length_take, List.length_drop]; omega
theorem insAt_get {D : List Int} {k i : Nat} (h : k ≤ D.length) (p : Nat) : (insAt D k i).getD p 0 = if p < k then D.getD p 0 else if p = k then (i : Int) else D.getD (p - 1) 0 := by
  unfold insAt
  have hl : (D.take k).length = k := by rw [List.length_take]; omega
  by_cases h1 : p < k
  · rw [if_pos h1, List.getD, List.getElem?_append_left (by omega), List.getElem?_take, if_pos h1]; rfl
  · rw [if_neg h1, List.getD, List.getElem?_append_right (by omega), hl]
    by_cases h2 : p = k
    · subst h2; rw [if_pos rfl, Nat.sub_self]; rfl
    · rw [if_neg h2]
      obtain ⟨d, hd⟩ : ∃ d, p - k = d + 1 := ⟨p - k - 1, by omega⟩
      rw [hd, List.getElem?_cons_succ, List.getElem?_drop, show k + d = p - 1 by omega]; rfl
theorem laid_succ {K : Nat → Nat} {i : Nat} {D : List Int} (h : Laid K i D) : Laid K (i + 1) (insAt D (cL K (K i + 1) i) i) := by
  have hk := cL_le K (K i + 1) i
  refine ⟨by rw [insAt_len (by rw [h.len]; exact hk), h.len], fun p hp => ?_⟩
  rw [insAt_get (by rw [h.len]; exact hk)]
  by_cases h1 : p < cL K (K i + 1) i
  · obtain ⟨q, e1, e2, e3⟩ := h.at_ p (by omega)
    refine ⟨q, by rw [if_pos h1, e1], by omega, ?_⟩
    rw [posK_succ, e3]
    by_cases h2 : K i < K q
    · have := pos_high h2; omega
    · rw [if_neg h2]; omega
  · by_cases h2 : p = cL K (K i + 1) i
    · refine ⟨i, by rw [if_neg h1, if_pos h2], by omega, ?_⟩
      unfold posK
      simp only [cL]
      rw [if_neg (Nat.lt_irrefl _), h2, cL_next]; omega
    · obtain ⟨q, e1, e2, e3⟩ := h.at_ (p - 1) (by omega)
      refine ⟨q, by rw [if_neg h1, if_neg h2, e1], by omega, ?_⟩
      rw [posK_succ, e3]
      by_cases h3 : K i < K q
      · rw [if_pos h3]; omega
      · have := pos_low e2 (by omega : K q ≤ K i); omega

theorem RefStable_gen (keys : List Int) (K : Nat → Nat) (hl : keys.length ≤ 1000000) (h0 : ∀ i q, i < keys.length → q < keys.length → (K i < K q ↔ keys.getD i 0 < keys.getD q 0)) :
    PCalls Try.prog 14 [inl keys] (inl (stabG K keys.length)) := by
  refine PCalls.of_aw Try.func14 rfl (by unfold Callable; kernel_rfl) (by kernel_rfl) (by simp [Try.ntmps14]) ?_; rw [Try.ntmps14, Try.results14]; (simp (maxSteps := 1000000) (disch := first | omega | (simp only [List.length_append, List.length_cons, List.length_nil, List.length_map, bitsOf_len, readB_len, Int.natCast_add, Int.natCast_succ, Nat.zero_add, natCast_one, natCast_zero] <;> omega) | fail) only [go_sem])
  (repeat' (first
    | ((first | with_reducible refine aw_seq ?_ | with_reducible refine aw_region (aops_run ?_) | (with_reducible refine aw_regionD (fun _ => .p) mixed ?_ (dops_run ?_); (· kernel_rfl)) | (with_reducible refine aw_regionD (fun _ => .r) mixed ?_ (dops_run ?_); (· kernel_rfl)) | with_reducible refine aw_condK ?_ | with_reducible refine aw_skip ?_ | with_reducible refine aw_ret ?_ | with_reducible refine aw_exit ?_ | with_reducible refine aw_label ?_ | with_reducible refine aw_block ?_ | with_reducible refine aw_scope ?_ | with_reducible refine And.intro ?_ ?_) <;> (try (simp (maxSteps := 1000000) (disch := first | omega | (simp only [List.length_append, List.length_cons, List.length_nil, List.length_map, bitsOf_len, readB_len, Int.natCast_add, Int.natCast_succ, Nat.zero_add, natCast_one, natCast_zero] <;> omega) | fail) only [go_sem])))
    | ((first | with_reducible refine wantK_split (fun h => ?_) (fun h => ?_) | with_reducible refine condK_split (fun h => ?_) (fun h => ?_) | with_reducible refine pickV_split (fun h => ?_) (fun h => ?_)) <;> (try (simp (maxSteps := 1000000) (disch := first | omega | (simp only [List.length_append, List.length_cons, List.length_nil, List.length_map, bitsOf_len, readB_len, Int.natCast_add, Int.natCast_succ, Nat.zero_add, natCast_one, natCast_zero] <;> omega) | fail) only [go_sem] at h)) <;> (try (simp (maxSteps := 1000000) (disch := first | omega | (simp only [List.length_append, List.length_cons, List.length_nil, List.length_map, bitsOf_len, readB_len, Int.natCast_add, Int.natCast_succ, Nat.zero_add, natCast_one, natCast_zero] <;> omega) | fail) only [go_sem, h])))))
  refine aw_loop (α := List Int × Nat) (fun x => ⟨50, sl [(0, .iv (inl keys)), (3, .msl 0 0 x.1.length x.1.length), (4, .iv (.int .i64 x.2))], [.row true 3 1 (x.1.map (IV.int .i64))], 0⟩)
    (fun x => Laid K x.2 x.1 ∧ x.2 ≤ keys.length) (fun x => keys.length - x.2) ([], 0) (wk_by [1] ?_) ⟨⟨rfl, fun p hp => by omega⟩, Nat.zero_le _⟩ ?_
  · (simp (maxSteps := 1000000) (disch := first | omega | (simp only [List.length_append, List.length_cons, List.length_nil, List.length_map, bitsOf_len, readB_len, Int.natCast_add, Int.natCast_succ, Nat.zero_add, natCast_one, natCast_zero] <;> omega) | fail) only [go_sem])
  rintro ⟨D, i⟩ ⟨hD, hi⟩
  dsimp only at hD hi
  have hDl := hD.len
  by_cases hlt : i < keys.length
  · have hk := cL_le K (K i + 1) i
    (repeat' (first
    | ((first | with_reducible refine aw_seq ?_ | with_reducible refine aw_region (aops_run ?_) | (with_reducible refine aw_regionD (fun _ => .p) mixed ?_ (dops_run ?_); (· kernel_rfl)) | (with_reducible refine aw_regionD (fun _ => .r) mixed ?_ (dops_run ?_); (· kernel_rfl)) | with_reducible refine aw_condK ?_ | with_reducible refine aw_skip ?_ | with_reducible refine aw_ret ?_ | with_reducible refine aw_exit ?_ | with_reducible refine aw_label ?_ | with_reducible refine aw_block ?_ | with_reducible refine aw_scope ?_ | with_reducible refine And.intro ?_ ?_) <;> (try (simp (maxSteps := 1000000) (disch := first | omega | (simp only [List.length_append, List.length_cons, List.length_nil, List.length_map, bitsOf_len, readB_len, Int.natCast_add, Int.natCast_succ, Nat.zero_add, natCast_one, natCast_zero] <;> omega) | fail) only [go_sem])))
    | ((first | with_reducible refine wantK_split (fun h => ?_) (fun h => ?_) | with_reducible refine condK_split (fun h => ?_) (fun h => ?_) | with_reducible refine pickV_split (fun h => ?_) (fun h => ?_)) <;> (try (simp (maxSteps := 1000000) (disch := first | omega | (simp only [List.length_append, List.length_cons, List.length_nil, List.length_map, bitsOf_len, readB_len, Int.natCast_add, Int.natCast_succ, Nat.zero_add, natCast_one, natCast_zero] <;> omega) | fail) only [go_sem] at h)) <;> (try (simp (maxSteps := 1000000) (disch := first | omega | (simp only [List.length_append, List.length_cons, List.length_nil, List.length_map, bitsOf_len, readB_len, Int.natCast_add, Int.natCast_succ, Nat.zero_add, natCast_one, natCast_zero] <;> omega) | fail) only [go_sem, h])))))
    all_goals (try omega)
    refine aw_loop (α := Nat) (fun k => ⟨50, sl [(0, .iv (inl keys)), (3, .msl 0 0 D.length D.length), (4, .iv (.int .i64 i)), (5, .iv (.int .i64 k))], [.row true 3 1 (D.map (IV.int .i64))], 0⟩)
      (fun k => cL K (K i + 1) i ≤ k ∧ k ≤ i) (fun k => k) D.length (wk_by [0] ?_) ⟨by omega, by omega⟩ ?_
    · (simp (maxSteps := 1000000) (disch := first | omega | (simp only [List.length_append, List.length_cons, List.length_nil, List.length_map, bitsOf_len, readB_len, Int.natCast_add, Int.natCast_succ, Nat.zero_add, natCast_one, natCast_zero] <;> omega) | fail) only [go_sem])
    rintro k ⟨hk1, hk2⟩
    by_cases hkk : cL K (K i + 1) i < k
    · obtain ⟨q, e1, e2, e3⟩ := hD.at_ (k - 1) (by omega)
      have hgt : keys.getD i 0 < keys.getD q 0 := by
        rcases Nat.lt_or_ge (K i) (K q) with hc | hc
        · exact (h0 i q hlt (by omega)).1 hc
        · have := pos_low e2 hc; omega
      have hk1' : ((k : Int) - 1).toNat = k - 1 := by omega
      (repeat' (first
    | ((first | with_reducible refine aw_seq ?_ | with_reducible refine aw_region (aops_run ?_) | (with_reducible refine aw_regionD (fun _ => .p) mixed ?_ (dops_run ?_); (· kernel_rfl)) | (with_reducible refine aw_regionD (fun _ => .r) mixed ?_ (dops_run ?_); (· kernel_rfl)) | with_reducible refine aw_condK ?_ | with_reducible refine aw_skip ?_ | with_reducible refine aw_ret ?_ | with_reducible refine aw_exit ?_ | with_reducible refine aw_label ?_ | with_reducible refine aw_block ?_ | with_reducible refine aw_scope ?_ | with_reducible refine And.intro ?_ ?_) <;> (try (simp (maxSteps := 1000000) (disch := first | omega | (simp only [List.length_append, List.length_cons, List.length_nil, List.length_map, bitsOf_len, readB_len, Int.natCast_add, Int.natCast_succ, Nat.zero_add, natCast_one, natCast_zero] <;> omega) | fail) only [go_sem, hk1', e1])))
    | ((first | with_reducible refine wantK_split (fun h => ?_) (fun h => ?_) | with_reducible refine condK_split (fun h => ?_) (fun h => ?_) | with_reducible refine pickV_split (fun h => ?_) (fun h => ?_)) <;> (try (simp (maxSteps := 1000000) (disch := first | omega | (simp only [List.length_append, List.length_cons, List.length_nil, List.length_map, bitsOf_len, readB_len, Int.natCast_add, Int.natCast_succ, Nat.zero_add, natCast_one, natCast_zero] <;> omega) | fail) only [go_sem] at h)) <;> (try (simp (maxSteps := 1000000) (disch := first | omega | (simp only [List.length_append, List.length_cons, List.length_nil, List.length_map, bitsOf_len, readB_len, Int.natCast_add, Int.natCast_succ, Nat.zero_add, natCast_one, natCast_zero] <;> omega) | fail) only [go_sem, h, hk1', e1])))))
      all_goals (try omega)
      refine ⟨k - 1, ⟨by omega, by omega⟩, wk_by [0] ?_, by omega⟩
      (simp (maxSteps := 1000000) (disch := first | omega | (simp only [List.length_append, List.length_cons, List.length_nil, List.length_map, bitsOf_len, readB_len, Int.natCast_add, Int.natCast_succ, Nat.zero_add, natCast_one, natCast_zero] <;> omega) | fail) only [go_sem])
      congr 2; omega
    · obtain rfl : k = cL K (K i + 1) i := by omega
      have hD' := laid_succ hD
      have hil := insAt_len (D := D) (k := cL K (K i + 1) i) (i := i) (by omega)
      have hmap : (insAt D (cL K (K i + 1) i) i).map (IV.int .i64) = List.take (cL K (K i + 1) i) (D.map (IV.int .i64)) ++ (IV.int .i64 i :: List.drop (cL K (K i + 1) i) (D.map (IV.int .i64))) := by
        unfold insAt; rw [List.map_append, List.map_cons, List.map_take, List.map_drop]
      have hlow : ∀ q : Nat, q < i → posK K i q < cL K (K i + 1) i → keys.getD q 0 ≤ keys.getD i 0 := by
        intro q hq hp
        rcases Nat.lt_or_ge (K i) (K q) with hc | hc
        · have := pos_high hc; omega
        · have := h0 i q hlt (by omega); omega
      generalize cL K (K i + 1) i = k at *
      have hdr : List.take (D.length - k) (List.drop k (D.map (IV.int .i64))) = List.drop k (D.map (IV.int .i64)) := List.take_of_length_le (by simp)
      have hdl : (List.drop k (D.map (IV.int .i64))).length = D.length - k := by rw [List.length_drop, List.length_map]
      have hlen : k + 1 + min (D.length - k) (D.length - k) = D.length + 1 := by omega
      by_cases hk0 : 0 < k
      · obtain ⟨q, e1, e2, e3⟩ := hD.at_ (k - 1) (by omega)
        have hle : keys.getD q 0 ≤ keys.getD i 0 := hlow q e2 (by omega)
        have hk1' : ((k : Int) - 1).toNat = k - 1 := by omega
        have htk : (List.take k (D.map (IV.int .i64))).length = k := by rw [List.length_take, List.length_map]; omega
        (repeat' (first
    | ((first | with_reducible refine aw_seq ?_ | with_reducible refine aw_region (aops_run ?_) | (with_reducible refine aw_regionD (fun _ => .p) mixed ?_ (dops_run ?_); (· kernel_rfl)) | (with_reducible refine aw_regionD (fun _ => .r) mixed ?_ (dops_run ?_); (· kernel_rfl)) | with_reducible refine aw_condK ?_ | with_reducible refine aw_skip ?_ | with_reducible refine aw_ret ?_ | with_reducible refine aw_exit ?_ | with_reducible refine aw_label ?_ | with_reducible refine aw_block ?_ | with_reducible refine aw_scope ?_ | with_reducible refine And.intro ?_ ?_) <;> (try (simp (maxSteps := 1000000) (disch := first | omega | (simp only [List.length_append, List.length_cons, List.length_nil, List.length_map, bitsOf_len, readB_len, Int.natCast_add, Int.natCast_succ, Nat.zero_add, natCast_one, natCast_zero] <;> omega) | fail) only [go_sem, hk1', e1, htk])))
    | ((first | with_reducible refine wantK_split (fun h => ?_) (fun h => ?_) | with_reducible refine condK_split (fun h => ?_) (fun h => ?_) | with_reducible refine pickV_split (fun h => ?_) (fun h => ?_)) <;> (try (simp (maxSteps := 1000000) (disch := first | omega | (simp only [List.length_append, List.length_cons, List.length_nil, List.length_map, bitsOf_len, readB_len, Int.natCast_add, Int.natCast_succ, Nat.zero_add, natCast_one, natCast_zero] <;> omega) | fail) only [go_sem] at h)) <;> (try (simp (maxSteps := 1000000) (disch := first | omega | (simp only [List.length_append, List.length_cons, List.length_nil, List.length_map, bitsOf_len, readB_len, Int.natCast_add, Int.natCast_succ, Nat.zero_add, natCast_one, natCast_zero] <;> omega) | fail) only [go_sem, h, hk1', e1, htk])))))
        all_goals (try omega)
        rw [hdr, ← hmap]
        refine ⟨(insAt D k i, i + 1), ⟨hD', by dsimp only; omega⟩, wk_by [1] ?_, by dsimp only; omega⟩
        (simp (maxSteps := 1000000) (disch := first | omega | (simp only [List.length_append, List.length_cons, List.length_nil, List.length_map, bitsOf_len, readB_len, Int.natCast_add, Int.natCast_succ, Nat.zero_add, natCast_one, natCast_zero] <;> omega) | fail) only [go_sem, hil])
        rw [hdl, hlen]
      · have htk : (List.take k (D.map (IV.int .i64))).length = k := by rw [List.length_take, List.length_map]; omega
        (repeat' (first
    | ((first | with_reducible refine aw_seq ?_ | with_reducible refine aw_region (aops_run ?_) | (with_reducible refine aw_regionD (fun _ => .p) mixed ?_ (dops_run ?_); (· kernel_rfl)) | (with_reducible refine aw_regionD (fun _ => .r) mixed ?_ (dops_run ?_); (· kernel_rfl)) | with_reducible refine aw_condK ?_ | with_reducible refine aw_skip ?_ | with_reducible refine aw_ret ?_ | with_reducible refine aw_exit ?_ | with_reducible refine aw_label ?_ | with_reducible refine aw_block ?_ | with_reducible refine aw_scope ?_ | with_reducible refine And.intro ?_ ?_) <;> (try (simp (maxSteps := 1000000) (disch := first | omega | (simp only [List.length_append, List.length_cons, List.length_nil, List.length_map, bitsOf_len, readB_len, Int.natCast_add, Int.natCast_succ, Nat.zero_add, natCast_one, natCast_zero] <;> omega) | fail) only [go_sem, htk])))
    | ((first | with_reducible refine wantK_split (fun h => ?_) (fun h => ?_) | with_reducible refine condK_split (fun h => ?_) (fun h => ?_) | with_reducible refine pickV_split (fun h => ?_) (fun h => ?_)) <;> (try (simp (maxSteps := 1000000) (disch := first | omega | (simp only [List.length_append, List.length_cons, List.length_nil, List.length_map, bitsOf_len, readB_len, Int.natCast_add, Int.natCast_succ, Nat.zero_add, natCast_one, natCast_zero] <;> omega) | fail) only [go_sem] at h)) <;> (try (simp (maxSteps := 1000000) (disch := first | omega | (simp only [List.length_append, List.length_cons, List.length_nil, List.length_map, bitsOf_len, readB_len, Int.natCast_add, Int.natCast_succ, Nat.zero_add, natCast_one, natCast_zero] <;> omega) | fail) only [go_sem, h, htk])))))
        all_goals (try omega)
        rw [hdr, ← hmap]
        refine ⟨(insAt D k i, i + 1), ⟨hD', by dsimp only; omega⟩, wk_by [1] ?_, by dsimp only; omega⟩
        (simp (maxSteps := 1000000) (disch := first | omega | (simp only [List.length_append, List.length_cons, List.length_nil, List.length_map, bitsOf_len, readB_len, Int.natCast_add, Int.natCast_succ, Nat.zero_add, natCast_one, natCast_zero] <;> omega) | fail) only [go_sem, hil])
        rw [hdl, hlen]
  · have e : i = keys.length := by omega
    subst e
    have := laid_eqG hD
    subst this
    (repeat' (first
    | ((first | with_reducible refine aw_seq ?_ | with_reducible refine aw_region (aops_run ?_) | (with_reducible refine aw_regionD (fun _ => .p) mixed ?_ (dops_run ?_); (· kernel_rfl)) | (with_reducible refine aw_regionD (fun _ => .r) mixed ?_ (dops_run ?_); (· kernel_rfl)) | with_reducible refine aw_condK ?_ | with_reducible refine aw_skip ?_ | with_reducible refine aw_ret ?_ | with_reducible refine aw_exit ?_ | with_reducible refine aw_label ?_ | with_reducible refine aw_block ?_ | with_reducible refine aw_scope ?_ | with_reducible refine And.intro ?_ ?_) <;> (try (simp (maxSteps := 1000000) (disch := first | omega | (simp only [List.length_append, List.length_cons, List.length_nil, List.length_map, bitsOf_len, readB_len, Int.natCast_add, Int.natCast_succ, Nat.zero_add, natCast_one, natCast_zero] <;> omega) | fail) only [go_sem])))
    | ((first | with_reducible refine wantK_split (fun h => ?_) (fun h => ?_) | with_reducible refine condK_split (fun h => ?_) (fun h => ?_) | with_reducible refine pickV_split (fun h => ?_) (fun h => ?_)) <;> (try (simp (maxSteps := 1000000) (disch := first | omega | (simp only [List.length_append, List.length_cons, List.length_nil, List.length_map, bitsOf_len, readB_len, Int.natCast_add, Int.natCast_succ, Nat.zero_add, natCast_one, natCast_zero] <;> omega) | fail) only [go_sem] at h)) <;> (try (simp (maxSteps := 1000000) (disch := first | omega | (simp only [List.length_append, List.length_cons, List.length_nil, List.length_map, bitsOf_len, readB_len, Int.natCast_add, Int.natCast_succ, Nat.zero_add, natCast_one, natCast_zero] <;> omega) | fail) only [go_sem, h])))))
    all_goals (try omega)
theorem RefStable_spec (keys : List Int) (hl : keys.length ≤ 1000000) (h0 : ∀ t, t < keys.length → 0 ≤ keys.getD t 0) :
    PCalls Try.prog 14 [inl keys] (inl (stabL keys)) :=
  RefStable_gen keys (keyN keys) hl (fun i q hi hq => by have := h0 i hi; have := h0 q hq; unfold keyN; omega)
theorem stabL_len (keys : List Int) : (stabL keys).length = keys.length := by simp [stabL, stabG]
theorem getD_mem {l : List Int} {k : Nat} (h : k < l.length) : l.getD k 0 ∈ l := by
  simp [List.getD, List.getElem?_eq_getElem h]
end Go.Proofs.Ytebegdnebjjnmaa.AM
