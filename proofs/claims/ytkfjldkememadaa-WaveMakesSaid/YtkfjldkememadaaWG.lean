
/- Chapter 4: the reference's Rows. No condition but lengths that fit. -/
import Derived.Test.YtkfjldkememadaaWF
set_option linter.unusedVariables false
set_option linter.unusedSimpArgs false
set_option maxRecDepth 20000
namespace Go.Proofs.Ytkfjldkememadaa.AM
open Go Go.RowKit

theorem lvl_pos (l : List Int) (W k : Nat) {i : Nat} (h : i < l.length) : (lvl l W k).getD (posK (wK l W k) l.length i) 0 = l.getD i 0 := lvl_at l W k (posK_lt _ h) (stabG_at _ h)
theorem cL_all {K : Nat → Nat} {v : Nat} : ∀ {n : Nat}, (∀ i, i < n → K i < v) → cL K v n = n
  | 0, _ => rfl
  | n + 1, h => by rw [cL, cL_all (fun i hi => h i (by omega)), if_pos (h n (by omega))]
theorem lvl_take (l : List Int) (W k v : Nat) {i : Nat} (h : i < l.length) (e : wK l W k i = v) :
    (lvl l W k).take (cL (wK l W k) v l.length + cN (wK l W k) v (i + 1)) = (lvl l W k).take (cL (wK l W k) v l.length + cN (wK l W k) v i) ++ [l.getD i 0] := by
  have hp : posK (wK l W k) l.length i = cL (wK l W k) v l.length + cN (wK l W k) v i := by unfold posK; rw [e]
  have hlt := posK_lt (wK l W k) h
  have hat := lvl_pos l W k h
  have hl := lvl_len l W k
  rw [cN, if_pos e, ← Nat.add_assoc, ← hp, List.take_add_one]
  congr 1
  simp only [List.getD] at hat
  rw [List.getElem?_eq_getElem (by omega)] at hat ⊢
  simpa using hat
set_option maxHeartbeats 4000000 in
theorem RefRows_spec (l : List Int) (size : Int) (hl : l.length ≤ 500000) (h1 : 1 ≤ size) (h2 : size ≤ 65536) (hs : ∀ x ∈ l, 0 ≤ x ∧ x < size) : PCalls Try.prog 31 [inl l, .int .i64 size] (.sl 1 ((rowsOf l (widN (size - 1))).map blsV)) := by
  have hw := RefWidth_spec (size - 1) ⟨by omega, by omega⟩
  have hW0 := widN_fits (n := size - 1) (by omega) (by omega) (w := 17) (by decide)
  have hWle : widN (size - 1) ≤ 17 := hW0.2 (by omega)
  have hWf := (widN_fits (n := size - 1) (by omega) (by omega) (w := widN (size - 1)) (by omega)).1 (Nat.le_refl _)
  have hs2 : ∀ x ∈ l, 0 ≤ x ∧ x.toNat < 2 ^ widN (size - 1) := fun x hx => by
    have := hs x hx
    exact ⟨this.1, by omega⟩
  generalize widN (size - 1) = W at *
  clear hW0 hWf
  have hrl := rowsOf_len l W
  have hlz := lvl_zero l W
  have hlw : (rowsOf l W).take W = rowsOf l W := List.take_of_length_le (by omega)
  have hcell : ∀ k, ∀ x ∈ lvl l W k, 0 ≤ x ∧ x.toNat < 4611686018427387904 := fun k x hx => by
    have : ∃ p, p < l.length ∧ x = l.getD p 0 := by
      unfold lvl pickL at hx
      obtain ⟨y, hy, rfl⟩ := List.mem_map.1 hx
      obtain ⟨p, hp, rfl⟩ := mem_idL.1 ((stab_perm _ _).mem_iff.1 hy)
      exact ⟨p, hp, by simp⟩
    obtain ⟨p, hp, rfl⟩ := this
    have := hs _ (getD_mem hp)
    omega
  refine PCalls.of_aw Try.func31 rfl (by unfold Callable; kernel_rfl) (by kernel_rfl) (by simp [Try.ntmps31]) ?_; rw [Try.ntmps31, Try.results31]; (simp (maxSteps := 1000000) (disch := first | exact dq | fail) only [go_sem])
  (repeat' (first
    | ((first | with_reducible (first | refine aw_seq ?_ | refine aw_region (aops_run ?_)) | (with_reducible refine aw_regionD (fun _ => .p) mixed ?_ (dops_run ?_); (· kernel_rfl)) | (with_reducible refine aw_regionD (fun _ => .r) mixed ?_ (dops_run ?_); (· kernel_rfl)) | with_reducible (first | refine aw_condK ?_ | refine aw_skip ?_ | refine aw_ret ?_ | refine aw_exit ?_ | refine aw_label ?_ | refine aw_block ?_ | refine aw_scope ?_ | refine And.intro ?_ ?_)) <;> (try (simp (maxSteps := 1000000) (disch := first | exact dq | fail) only [go_sem])))
    | (with_reducible (first | refine wantK_split (fun h => ?_) (fun h => ?_) | refine condK_split (fun h => ?_) (fun h => ?_) | refine pickV_split (fun h => ?_) (fun h => ?_)) <;> (try (simp (maxSteps := 1000000) (disch := first | exact dq | fail) only [go_sem] at h)) <;> (try (simp (maxSteps := 1000000) (disch := first | exact dq | fail) only [go_sem, h])))))
  ((first | with_reducible apply left_callf | with_reducible apply leftD_callf | with_reducible apply leftF_callf); (· with_reducible rfl); (· (simp (maxSteps := 1000000) (disch := first | exact dq | fail) only [go_sem]) <;> rfl); (· exact hw); try (simp (maxSteps := 1000000) (disch := first | exact dq | fail) only [go_sem]))
  (repeat' (first
    | ((first | with_reducible (first | refine aw_seq ?_ | refine aw_region (aops_run ?_)) | (with_reducible refine aw_regionD (fun _ => .p) mixed ?_ (dops_run ?_); (· kernel_rfl)) | (with_reducible refine aw_regionD (fun _ => .r) mixed ?_ (dops_run ?_); (· kernel_rfl)) | with_reducible (first | refine aw_condK ?_ | refine aw_skip ?_ | refine aw_ret ?_ | refine aw_exit ?_ | refine aw_label ?_ | refine aw_block ?_ | refine aw_scope ?_ | refine And.intro ?_ ?_)) <;> (try (simp (maxSteps := 1000000) (disch := first | exact dq | fail) only [go_sem])))
    | (with_reducible (first | refine wantK_split (fun h => ?_) (fun h => ?_) | refine condK_split (fun h => ?_) (fun h => ?_) | refine pickV_split (fun h => ?_) (fun h => ?_)) <;> (try (simp (maxSteps := 1000000) (disch := first | exact dq | fail) only [go_sem] at h)) <;> (try (simp (maxSteps := 1000000) (disch := first | exact dq | fail) only [go_sem, h])))))
  refine aw_loop (α := Nat) (fun k => ⟨81, sl [(0, .iv (inl l)), (5, .iv (.int .i64 W)), (6, .msl 0 0 k k), (7, .iv (inl (lvl l W k))), (8, .iv (.int .i64 k))], [.row true 53 1 (((rowsOf l W).take k).map blsV)], 0⟩)
    (fun k => k ≤ W) (fun k => W - k) 0 (wk_by [1] ?_) (by omega) ?_
  · (simp (maxSteps := 1000000) (disch := first | exact dq | fail) only [go_sem, hlz])
    try exact ⟨rfl, rfl⟩
  rintro k hk
  have hlk := lvl_len l W k
  have hck := hcell k
  by_cases h : k < W
  · have hc : (k : Int) < W := by omega
    have hd : (W : Int) - 1 - k = ((W - 1 - k : Nat) : Int) := by omega
    have hbits := lvl_bits l W k
    have hrt := rows_take l W h
    have hbl := rowK_len (wK l W k) (bitN W (sy l) k) l.length
    have hbi : ∀ i, i < l.length → (rowK (wK l W k) (bitN W (sy l) k) l.length).getD i false = decide (sy (lvl l W k) i / 2 ^ (W - 1 - k) % 2 = 1) := fun i hi => by
      rw [← hbits]; simp [List.getD, hi]
    clear hbits
    have hnn : ∀ i, (lvl l W k).getD i 0 = ((sy (lvl l W k) i : Nat) : Int) := fun i => by
      have := Sym.at_ (l := lvl l W k) hck i
      unfold sy; omega
    have hsm : ∀ i, sy (lvl l W k) i < 4611686018427387904 := fun i => (Sym.at_ (l := lvl l W k) hck i).2
    have htk : ((rowsOf l W).take k).length = k := by rw [List.length_take]; omega
    have hlt2 := lvl_take l W (k + 1)
    have hR'l := lvl_len l W (k + 1)
    have hKlt : ∀ i, wK l W (k + 1) i < 2 ^ (k + 1) := fun i => levK_lt _ _ _
    have hK17 : 2 ^ (k + 1) ≤ 2 ^ 17 := Nat.pow_le_pow_right (by decide) (by omega)
    have hKd : ∀ i, i < l.length → (l.getD i 0).fdiv (2 ^ min (W - 1 - k) 64) = ((wK l W (k + 1) i : Nat) : Int) := fun i hi => by
      have h0 := hs2 _ (getD_mem hi)
      have := levK_of (s := sy l) h0.2 (k + 1) (by omega)
      unfold wK
      rw [this, fdiv_s _ _ (by omega), show W - (k + 1) = W - 1 - k by omega, Int.natCast_ediv, Int.natCast_pow]
      unfold sy
      rw [Int.toNat_of_nonneg h0.1]; rfl
    generalize hRR : lvl l W (k + 1) = R' at *
    generalize rowK (wK l W k) (bitN W (sy l) k) l.length = B at *
    generalize lvl l W k = R at *
    generalize wK l W (k + 1) = K at *
    generalize hdd : W - 1 - k = d at *
    have e1 : IntKind.i64.wrap (1 * 2 ^ min ((k : Int) + 1).toNat 64) = ((2 ^ (k + 1) : Nat) : Int) := by
      rw [show ((k : Int) + 1).toNat = k + 1 by omega, Nat.min_eq_left (by omega), Int.one_mul, show (2 : Int) ^ (k + 1) = ((2 ^ (k + 1) : Nat) : Int) from by simp]
      have h131 : ((2 ^ (k + 1) : Nat) : Int) ≤ 131072 := Int.ofNat_le.2 hK17
      have h0 : 0 ≤ ((2 ^ (k + 1) : Nat) : Int) := Int.natCast_nonneg _
      generalize ((2 ^ (k + 1) : Nat) : Int) = z at *
      exact wrapS ⟨by omega, by omega⟩
    generalize 2 ^ (k + 1) = V at *
    have hVl : cL K V l.length = l.length := cL_all (fun i _ => hKlt i)
    (repeat' (first
    | ((first | with_reducible (first | refine aw_seq ?_ | refine aw_region (aops_run ?_)) | (with_reducible refine aw_regionD (fun _ => .p) mixed ?_ (dops_run ?_); (· kernel_rfl)) | (with_reducible refine aw_regionD (fun _ => .r) mixed ?_ (dops_run ?_); (· kernel_rfl)) | with_reducible (first | refine aw_condK ?_ | refine aw_skip ?_ | refine aw_ret ?_ | refine aw_exit ?_ | refine aw_label ?_ | refine aw_block ?_ | refine aw_scope ?_ | refine And.intro ?_ ?_)) <;> (try (simp (maxSteps := 1000000) (disch := first | exact dq | fail) only [go_sem, hc, hd, decide_true])))
    | (with_reducible (first | refine wantK_split (fun h => ?_) (fun h => ?_) | refine condK_split (fun h => ?_) (fun h => ?_) | refine pickV_split (fun h => ?_) (fun h => ?_)) <;> (try (simp (maxSteps := 1000000) (disch := first | exact dq | fail) only [go_sem] at h)) <;> (try (simp (maxSteps := 1000000) (disch := first | exact dq | fail) only [go_sem, h, hc, hd, decide_true])))))
    all_goals (try omega)
    refine aw_postE (β := Unit) (fun _ => ⟨81, sl [(0, .iv (inl l)), (5, .iv (.int .i64 W)), (6, .msl 0 0 k k), (8, .iv (.int .i64 k)), (9, .iv (.int .u64 d)), (10, .iv (blsV B)), (11, .msl 1 0 0 0)], [.row true 53 1 (((rowsOf l W).take k).map blsV), .row true 3 1 []], 0⟩) (fun _ => True) ?_ ?_
    · refine aw_loop (α := Nat) (fun i => ⟨81, sl [(0, .iv (inl l)), (5, .iv (.int .i64 W)), (6, .msl 0 0 k k), (7, .iv (inl R)), (8, .iv (.int .i64 k)), (9, .iv (.int .u64 d)), (10, .msl 1 0 i i), (11, .msl 2 0 0 0), (12, .iv (.int .i64 i))], [.row true 53 1 (((rowsOf l W).take k).map blsV), .row true 4 1 ((B.take i).map .bool), .row true 3 1 []], 0⟩)
        (fun i => i ≤ l.length) (fun i => l.length - i) 0 (wk_by [0, 1, 2] ?_) (by omega) ?_
      · (simp (maxSteps := 1000000) (disch := first | exact dq | fail) only [go_sem, hlk])
        try exact ⟨rfl, rfl⟩
      rintro i hi
      by_cases g : i < l.length
      · have hcc : (i : Int) < l.length := by omega
        have htl : (B.take i).length = i := by rw [List.length_take]; omega
        have hsn : B.take (i + 1) = B.take i ++ [decide (((sy R i / 2 ^ d % 2 : Nat) : Int) = 1)] := by
          rw [List.take_add_one, bit_b, ← hbi i g]
          simp [List.getD, List.getElem?_eq_getElem (show i < B.length by omega)]
        have hsh := shr_bit (sy R i) d (by omega) (hsm i)
        have hgi := hnn i
        (repeat' (first
    | ((first | with_reducible (first | refine aw_seq ?_ | refine aw_region (aops_run ?_)) | (with_reducible refine aw_regionD (fun _ => .p) mixed ?_ (dops_run ?_); (· kernel_rfl)) | (with_reducible refine aw_regionD (fun _ => .r) mixed ?_ (dops_run ?_); (· kernel_rfl)) | with_reducible (first | refine aw_condK ?_ | refine aw_skip ?_ | refine aw_ret ?_ | refine aw_exit ?_ | refine aw_label ?_ | refine aw_block ?_ | refine aw_scope ?_ | refine And.intro ?_ ?_)) <;> (try (simp (maxSteps := 1000000) (disch := first | exact dq | fail) only [go_sem, hcc, hlk, hgi, hsh, decide_true])))
    | (with_reducible (first | refine wantK_split (fun h => ?_) (fun h => ?_) | refine condK_split (fun h => ?_) (fun h => ?_) | refine pickV_split (fun h => ?_) (fun h => ?_)) <;> (try (simp (maxSteps := 1000000) (disch := first | exact dq | fail) only [go_sem] at h)) <;> (try (simp (maxSteps := 1000000) (disch := first | exact dq | fail) only [go_sem, h, hcc, hlk, hgi, hsh, decide_true])))))
        all_goals (try omega)
        refine ⟨i + 1, by omega, wk_by [0, 1, 2] ?_, by omega⟩
        (simp (maxSteps := 1000000) (disch := first | exact dq | fail) only [go_sem, hsn, List.map_append])
      · obtain rfl : i = l.length := by omega
        have hcc : ¬ ((l.length : Int) < l.length) := by omega
        rw [List.take_of_length_le (Nat.le_of_eq hbl)]
        (repeat' (first
    | ((first | with_reducible (first | refine aw_seq ?_ | refine aw_region (aops_run ?_)) | (with_reducible refine aw_regionD (fun _ => .p) mixed ?_ (dops_run ?_); (· kernel_rfl)) | (with_reducible refine aw_regionD (fun _ => .r) mixed ?_ (dops_run ?_); (· kernel_rfl)) | with_reducible (first | refine aw_condK ?_ | refine aw_skip ?_ | refine aw_ret ?_ | refine aw_exit ?_ | refine aw_label ?_ | refine aw_block ?_ | refine aw_scope ?_ | refine And.intro ?_ ?_)) <;> (try (simp (maxSteps := 1000000) (disch := first | exact dq | fail) only [go_sem, hcc, hlk, decide_false])))
    | (with_reducible (first | refine wantK_split (fun h => ?_) (fun h => ?_) | refine condK_split (fun h => ?_) (fun h => ?_) | refine pickV_split (fun h => ?_) (fun h => ?_)) <;> (try (simp (maxSteps := 1000000) (disch := first | exact dq | fail) only [go_sem] at h)) <;> (try (simp (maxSteps := 1000000) (disch := first | exact dq | fail) only [go_sem, h, hcc, hlk, decide_false])))))
        all_goals (try omega)
        refine ⟨(), (wk_frz (i := 10) (y := blsV B) (M' := [.row true 53 1 (((rowsOf l W).take k).map blsV), .row false 4 1 (B.map .bool), .row true 3 1 []]) ?_).trans (wk_by [0, 2] ?_)⟩
        · rw [← hbl]
          (simp (maxSteps := 1000000) (disch := first | exact dq | fail) only [go_sem])
        · (simp (maxSteps := 1000000) (disch := first | exact dq | fail) only [go_sem])
    rintro _ _
    (repeat' (first
    | ((first | with_reducible (first | refine aw_seq ?_ | refine aw_region (aops_run ?_)) | (with_reducible refine aw_regionD (fun _ => .p) mixed ?_ (dops_run ?_); (· kernel_rfl)) | (with_reducible refine aw_regionD (fun _ => .r) mixed ?_ (dops_run ?_); (· kernel_rfl)) | with_reducible (first | refine aw_condK ?_ | refine aw_skip ?_ | refine aw_ret ?_ | refine aw_exit ?_ | refine aw_label ?_ | refine aw_block ?_ | refine aw_scope ?_ | refine And.intro ?_ ?_)) <;> (try (simp (maxSteps := 1000000) (disch := first | exact dq | fail) only [go_sem])))
    | (with_reducible (first | refine wantK_split (fun h => ?_) (fun h => ?_) | refine condK_split (fun h => ?_) (fun h => ?_) | refine pickV_split (fun h => ?_) (fun h => ?_)) <;> (try (simp (maxSteps := 1000000) (disch := first | exact dq | fail) only [go_sem] at h)) <;> (try (simp (maxSteps := 1000000) (disch := first | exact dq | fail) only [go_sem, h])))))
    all_goals (try omega)
    refine aw_postE (β := Unit) (fun _ => ⟨81, sl [(0, .iv (inl l)), (5, .iv (.int .i64 W)), (6, .msl 0 0 (k + 1) (k + 1)), (8, .iv (.int .i64 k)), (11, .msl 1 0 l.length l.length)],
      [.row true 53 1 (((rowsOf l W).take (k + 1)).map blsV), .row true 3 1 (R'.map (IV.int .i64))], 0⟩) (fun _ => True) ?_ ?_
    · refine aw_loop (α := Nat) (fun v => ⟨81, sl [(0, .iv (inl l)), (5, .iv (.int .i64 W)), (6, .msl 0 0 (k + 1) (k + 1)), (8, .iv (.int .i64 k)), (9, .iv (.int .u64 d)), (11, .msl 1 0 (cL K v l.length) (cL K v l.length)), (13, .iv (.int .i64 v))],
        [.row true 53 1 (((rowsOf l W).take (k + 1)).map blsV), .row true 3 1 ((R'.take (cL K v l.length)).map (IV.int .i64))], 0⟩)
        (fun v => v ≤ V) (fun v => V - v) 0 (wk_by [0, 1] ?_) (by omega) ?_
      · have hz := cL_zero K l.length
        (simp (maxSteps := 1000000) (disch := first | exact dq | fail) only [go_sem, hrt, htk, hz, List.map_append, List.take_zero])
        try exact ⟨rfl, rfl⟩
      rintro v hv
      by_cases g : v < V
      · have hcv : (v : Int) < V := by omega
        (repeat' (first
    | ((first | with_reducible (first | refine aw_seq ?_ | refine aw_region (aops_run ?_)) | (with_reducible refine aw_regionD (fun _ => .p) mixed ?_ (dops_run ?_); (· kernel_rfl)) | (with_reducible refine aw_regionD (fun _ => .r) mixed ?_ (dops_run ?_); (· kernel_rfl)) | with_reducible (first | refine aw_condK ?_ | refine aw_skip ?_ | refine aw_ret ?_ | refine aw_exit ?_ | refine aw_label ?_ | refine aw_block ?_ | refine aw_scope ?_ | refine And.intro ?_ ?_)) <;> (try (simp (maxSteps := 1000000) (disch := first | exact dq | fail) only [go_sem, e1, hcv, decide_true])))
    | (with_reducible (first | refine wantK_split (fun h => ?_) (fun h => ?_) | refine condK_split (fun h => ?_) (fun h => ?_) | refine pickV_split (fun h => ?_) (fun h => ?_)) <;> (try (simp (maxSteps := 1000000) (disch := first | exact dq | fail) only [go_sem] at h)) <;> (try (simp (maxSteps := 1000000) (disch := first | exact dq | fail) only [go_sem, h, e1, hcv, decide_true])))))
        all_goals (try omega)
        refine aw_loop (α := Nat) (fun i => ⟨81, sl [(0, .iv (inl l)), (5, .iv (.int .i64 W)), (6, .msl 0 0 (k + 1) (k + 1)), (8, .iv (.int .i64 k)), (9, .iv (.int .u64 d)), (11, .msl 1 0 (cL K v l.length + cN K v i) (cL K v l.length + cN K v i)), (13, .iv (.int .i64 v)), (14, .iv (.int .i64 i))],
            [.row true 53 1 (((rowsOf l W).take (k + 1)).map blsV), .row true 3 1 ((R'.take (cL K v l.length + cN K v i)).map (IV.int .i64))], 0⟩)
            (fun i => i ≤ l.length) (fun i => l.length - i) 0 (wk_by [0, 1] ?_) (by omega) ?_
        · have hz : cN K v 0 = 0 := rfl
          (simp (maxSteps := 1000000) (disch := first | exact dq | fail) only [go_sem, hz, Nat.add_zero])
          try exact ⟨rfl, rfl⟩
        rintro i hi
        by_cases gi : i < l.length
        · have hci : (i : Int) < l.length := by omega
          have hkd := hKd i gi
          have hfit := cN_fit K v l.length (i := i) (by omega)
          by_cases ge : K i = v
          · have ge2 : ((K i : Nat) : Int) = v := by omega
            have htt := hlt2 v gi ge
            have hcn : cN K v (i + 1) = cN K v i + 1 := by rw [cN, if_pos ge]
            have htl : (R'.take (cL K v l.length + cN K v i)).length = cL K v l.length + cN K v i := by rw [List.length_take]; omega
            rw [hcn, ← Nat.add_assoc] at htt
            (repeat' (first
    | ((first | with_reducible (first | refine aw_seq ?_ | refine aw_region (aops_run ?_)) | (with_reducible refine aw_regionD (fun _ => .p) mixed ?_ (dops_run ?_); (· kernel_rfl)) | (with_reducible refine aw_regionD (fun _ => .r) mixed ?_ (dops_run ?_); (· kernel_rfl)) | with_reducible (first | refine aw_condK ?_ | refine aw_skip ?_ | refine aw_ret ?_ | refine aw_exit ?_ | refine aw_label ?_ | refine aw_block ?_ | refine aw_scope ?_ | refine And.intro ?_ ?_)) <;> (try (simp (maxSteps := 1000000) (disch := first | exact dq | fail) only [go_sem, hci, hkd, ge2, htl, decide_true, eq_self])))
    | (with_reducible (first | refine wantK_split (fun h => ?_) (fun h => ?_) | refine condK_split (fun h => ?_) (fun h => ?_) | refine pickV_split (fun h => ?_) (fun h => ?_)) <;> (try (simp (maxSteps := 1000000) (disch := first | exact dq | fail) only [go_sem] at h)) <;> (try (simp (maxSteps := 1000000) (disch := first | exact dq | fail) only [go_sem, h, hci, hkd, ge2, htl, decide_true, eq_self])))))
            all_goals (try omega)
            refine ⟨i + 1, by omega, wk_by [0, 1] ?_, by omega⟩
            rw [hcn, ← Nat.add_assoc]
            (simp (maxSteps := 1000000) (disch := first | exact dq | fail) only [go_sem, htt, List.map_append])
          · have ge2 : ¬ ((K i : Nat) : Int) = v := by omega
            have hcn : cN K v (i + 1) = cN K v i := by rw [cN, if_neg ge, Nat.add_zero]
            (repeat' (first
    | ((first | with_reducible (first | refine aw_seq ?_ | refine aw_region (aops_run ?_)) | (with_reducible refine aw_regionD (fun _ => .p) mixed ?_ (dops_run ?_); (· kernel_rfl)) | (with_reducible refine aw_regionD (fun _ => .r) mixed ?_ (dops_run ?_); (· kernel_rfl)) | with_reducible (first | refine aw_condK ?_ | refine aw_skip ?_ | refine aw_ret ?_ | refine aw_exit ?_ | refine aw_label ?_ | refine aw_block ?_ | refine aw_scope ?_ | refine And.intro ?_ ?_)) <;> (try (simp (maxSteps := 1000000) (disch := first | exact dq | fail) only [go_sem, hci, hkd, ge2, decide_false])))
    | (with_reducible (first | refine wantK_split (fun h => ?_) (fun h => ?_) | refine condK_split (fun h => ?_) (fun h => ?_) | refine pickV_split (fun h => ?_) (fun h => ?_)) <;> (try (simp (maxSteps := 1000000) (disch := first | exact dq | fail) only [go_sem] at h)) <;> (try (simp (maxSteps := 1000000) (disch := first | exact dq | fail) only [go_sem, h, hci, hkd, ge2, decide_false])))))
            all_goals (try omega)
            refine ⟨i + 1, by omega, wk_by [0, 1] ?_, by omega⟩
            rw [hcn]
            (simp (maxSteps := 1000000) (disch := first | exact dq | fail) only [go_sem])
        · obtain rfl : i = l.length := by omega
          have hci : ¬ ((l.length : Int) < l.length) := by omega
          have hnx := cL_next K v l.length
          (repeat' (first
    | ((first | with_reducible (first | refine aw_seq ?_ | refine aw_region (aops_run ?_)) | (with_reducible refine aw_regionD (fun _ => .p) mixed ?_ (dops_run ?_); (· kernel_rfl)) | (with_reducible refine aw_regionD (fun _ => .r) mixed ?_ (dops_run ?_); (· kernel_rfl)) | with_reducible (first | refine aw_condK ?_ | refine aw_skip ?_ | refine aw_ret ?_ | refine aw_exit ?_ | refine aw_label ?_ | refine aw_block ?_ | refine aw_scope ?_ | refine And.intro ?_ ?_)) <;> (try (simp (maxSteps := 1000000) (disch := first | exact dq | fail) only [go_sem, hci, decide_false])))
    | (with_reducible (first | refine wantK_split (fun h => ?_) (fun h => ?_) | refine condK_split (fun h => ?_) (fun h => ?_) | refine pickV_split (fun h => ?_) (fun h => ?_)) <;> (try (simp (maxSteps := 1000000) (disch := first | exact dq | fail) only [go_sem] at h)) <;> (try (simp (maxSteps := 1000000) (disch := first | exact dq | fail) only [go_sem, h, hci, decide_false])))))
          all_goals (try omega)
          refine ⟨v + 1, by omega, wk_by [0, 1] ?_, by omega⟩
          rw [hnx]
          (simp (maxSteps := 1000000) (disch := first | exact dq | fail) only [go_sem])
      · obtain rfl : v = V := by omega
        have hcv : ¬ ((v : Int) < v) := by omega
        rw [hVl, ← hR'l, List.take_length]
        (repeat' (first
    | ((first | with_reducible (first | refine aw_seq ?_ | refine aw_region (aops_run ?_)) | (with_reducible refine aw_regionD (fun _ => .p) mixed ?_ (dops_run ?_); (· kernel_rfl)) | (with_reducible refine aw_regionD (fun _ => .r) mixed ?_ (dops_run ?_); (· kernel_rfl)) | with_reducible (first | refine aw_condK ?_ | refine aw_skip ?_ | refine aw_ret ?_ | refine aw_exit ?_ | refine aw_label ?_ | refine aw_block ?_ | refine aw_scope ?_ | refine And.intro ?_ ?_)) <;> (try (simp (maxSteps := 1000000) (disch := first | exact dq | fail) only [go_sem, e1, hcv, decide_false])))
    | (with_reducible (first | refine wantK_split (fun h => ?_) (fun h => ?_) | refine condK_split (fun h => ?_) (fun h => ?_) | refine pickV_split (fun h => ?_) (fun h => ?_)) <;> (try (simp (maxSteps := 1000000) (disch := first | exact dq | fail) only [go_sem] at h)) <;> (try (simp (maxSteps := 1000000) (disch := first | exact dq | fail) only [go_sem, h, e1, hcv, decide_false])))))
        all_goals (try omega)
        refine ⟨(), wk_by [0, 1] ?_⟩
        (simp (maxSteps := 1000000) (disch := first | exact dq | fail) only [go_sem])
    · rintro _ _
      (repeat' (first
    | ((first | with_reducible (first | refine aw_seq ?_ | refine aw_region (aops_run ?_)) | (with_reducible refine aw_regionD (fun _ => .p) mixed ?_ (dops_run ?_); (· kernel_rfl)) | (with_reducible refine aw_regionD (fun _ => .r) mixed ?_ (dops_run ?_); (· kernel_rfl)) | with_reducible (first | refine aw_condK ?_ | refine aw_skip ?_ | refine aw_ret ?_ | refine aw_exit ?_ | refine aw_label ?_ | refine aw_block ?_ | refine aw_scope ?_ | refine And.intro ?_ ?_)) <;> (try (simp (maxSteps := 1000000) (disch := first | exact dq | fail) only [go_sem])))
    | (with_reducible (first | refine wantK_split (fun h => ?_) (fun h => ?_) | refine condK_split (fun h => ?_) (fun h => ?_) | refine pickV_split (fun h => ?_) (fun h => ?_)) <;> (try (simp (maxSteps := 1000000) (disch := first | exact dq | fail) only [go_sem] at h)) <;> (try (simp (maxSteps := 1000000) (disch := first | exact dq | fail) only [go_sem, h])))))
      all_goals (try omega)
      refine ⟨k + 1, by omega, (wk_frz (i := 7) (y := inl R') (M' := [.row true 53 1 (((rowsOf l W).take (k + 1)).map blsV), .row false 3 1 (R'.map (IV.int .i64))]) ?_).trans (wk_by [0] ?_), by omega⟩
      · rw [← hR'l]
        (simp (maxSteps := 1000000) (disch := first | exact dq | fail) only [go_sem])
      · (simp (maxSteps := 1000000) (disch := first | exact dq | fail) only [go_sem, hRR])
  · obtain rfl : k = W := by omega
    have hc : ¬ ((k : Int) < k) := by omega
    rw [hlw]
    (repeat' (first
    | ((first | with_reducible (first | refine aw_seq ?_ | refine aw_region (aops_run ?_)) | (with_reducible refine aw_regionD (fun _ => .p) mixed ?_ (dops_run ?_); (· kernel_rfl)) | (with_reducible refine aw_regionD (fun _ => .r) mixed ?_ (dops_run ?_); (· kernel_rfl)) | with_reducible (first | refine aw_condK ?_ | refine aw_skip ?_ | refine aw_ret ?_ | refine aw_exit ?_ | refine aw_label ?_ | refine aw_block ?_ | refine aw_scope ?_ | refine And.intro ?_ ?_)) <;> (try (simp (maxSteps := 1000000) (disch := first | exact dq | fail) only [go_sem, hc, hrl, decide_false])))
    | (with_reducible (first | refine wantK_split (fun h => ?_) (fun h => ?_) | refine condK_split (fun h => ?_) (fun h => ?_) | refine pickV_split (fun h => ?_) (fun h => ?_)) <;> (try (simp (maxSteps := 1000000) (disch := first | exact dq | fail) only [go_sem] at h)) <;> (try (simp (maxSteps := 1000000) (disch := first | exact dq | fail) only [go_sem, h, hc, hrl, decide_false])))))
    all_goals (try omega)
end Go.Proofs.Ytkfjldkememadaa.AM
