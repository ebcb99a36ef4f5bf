
/- Chapter 8: the document's Back and Next. No condition but lengths that fit. -/
import Derived.Test.YtejhomoafhnipaaU4
set_option linter.unusedVariables false
set_option linter.unusedSimpArgs false
set_option maxRecDepth 20000
namespace Go.Proofs.Ytejhomoafhnipaa.AM
open Go Go.RowKit

theorem RefStable_any (b : List Int) (hl : b.length ≤ 1000000) : PCalls Try.prog 57 [inl b] (inl (boL b)) :=
  RefStable_gen b (kyF b) hl (fun i q hi hq => ky_lt hi hq)
def bkF (b : List Int) : Nat → Nat
  | 0 => 0
  | j + 1 => ((invL (boL b)).getD (bkF b j) 0).toNat
def bkL (b : List Int) (j : Nat) : List Int := (List.range j).map (fun i => b.getD (bkF b i) 0)
theorem bkL_len (b : List Int) (j : Nat) : (bkL b j).length = j := by simp [bkL]
theorem bkL_succ (b : List Int) (j : Nat) : bkL b (j + 1) = bkL b j ++ [b.getD (bkF b j) 0] := by simp [bkL, List.range_succ]
theorem inv_rng {b : List Int} {r : Nat} (h : r < b.length) : 0 ≤ (invL (boL b)).getD r 0 ∧ (invL (boL b)).getD r 0 < b.length := by
  have := (allB_pm (invL_all (boL_all b))).rng r (by rw [invL_len, boL_len]; exact h)
  rwa [invL_len, boL_len] at this
theorem bk_lt {b : List Int} (h : 0 < b.length) : ∀ j, bkF b j < b.length
  | 0 => h
  | j + 1 => by
    have := inv_rng (bk_lt h j)
    rw [bkF]; omega
theorem bk_cyc {b : List Int} (h : Rnd b) : ∀ j, j ≤ b.length → bkF b j = cycF (boL b) (b.length - j)
  | 0, _ => h.cyc.symm
  | j + 1, hj => by
    have ih := bk_cyc h j (by omega)
    rw [bkF, ih, show b.length - j = (b.length - (j + 1)) + 1 by omega, cycF, invL_at (boL_all b) (by rw [boL_len]; exact cyc_lt h.pos _), Int.toNat_natCast]
def bkOk (b : List Int) (j : Nat) : Prop := (∀ x ∈ (bkL b j).reverse, 0 ≤ x) ∧ turnL (bkL b j).reverse = b
theorem bk_rnd {b : List Int} (h : Rnd b) {j : Nat} (hj : j ≤ b.length) (h1 : ∀ i, i < j → b.getD (bkF b i) 0 ≠ -1) (h2 : j = b.length ∨ b.getD (bkF b j) 0 = -1) : (bkL b j).reverse = outP b := by
  have hp := h.pos
  have hj1 : j = b.length - 1 := by
    rcases Nat.lt_trichotomy j (b.length - 1) with g | g | g
    · rcases h2 with e | e
      · omega
      · rw [bk_cyc h j hj] at e
        have := h.only (j := b.length - j) (by omega)
        omega
    · exact g
    · have := h1 (b.length - 1) (by omega)
      rw [bk_cyc h _ (by omega), show b.length - (b.length - 1) = 1 by omega] at this
      exact absurd h.first this
  subst hj1
  have hol := outP_len b
  have hbl := bkL_len b (b.length - 1)
  apply List.ext_getElem (by rw [List.length_reverse]; omega)
  intro k k1 k2
  rw [List.getElem_reverse, ← getD_el, ← getD_el k2, outP_at (by omega)]
  unfold bkL
  rw [List.length_map, List.length_range, range_at (f := fun i => b.getD (bkF b i) 0) (by omega), bk_cyc h _ (by omega)]
  congr 2; omega
set_option maxHeartbeats 8000000 in
theorem RefBack_gen (b : List Int) (h0 : 0 < b.length) (hl : b.length ≤ 90000) (r : IV)
    (hr : ∀ j, j ≤ b.length → (∀ i, i < j → b.getD (bkF b i) 0 ≠ -1) → (j = b.length ∨ b.getD (bkF b j) 0 = -1) → (bkOk b j → r = .tup [inl (bkL b j).reverse, .bool true]) ∧ (¬ bkOk b j → r = .tup [inl [], .bool false])) :
    PCalls Try.prog 36 [inl b] r := by
  have hS := RefStable_any b (by omega)
  have hDl := boL_len b
  have hRl : (invL (boL b)).length = b.length := by rw [invL_len, hDl]
  have hbr := fun r => @boL_rng b r
  have hri := fun r => @inv_rng b r
  have hinv : ∀ i, i < b.length → (invL (boL b)).getD ((boL b).getD i 0).toNat 0 = i := fun i hi => invL_at (boL_all b) (by omega)
  have hinv2 : ∀ m, m < b.length → (boL b).getD ((invL (boL b)).getD m 0).toNat 0 = m := fun m hm => by
    have := invL_at (invL_all (boL_all b)) (j := m) (by omega)
    rwa [invL_back (boL_all b)] at this
  have hbk0 : bkF b 0 = 0 := rfl
  have hbks : ∀ j, bkF b (j + 1) = ((invL (boL b)).getD (bkF b j) 0).toNat := fun j => rfl
  have hbl := bk_lt h0
  have hLs := bkL_succ b
  have hLl := bkL_len b
  have hL0 : bkL b 0 = [] := rfl
  generalize invL (boL b) = R at *
  generalize boL b = D at *
  have hlast : rowF b.length (fun m => if R.getD m 0 < (b.length : Int) then R.getD m 0 else 0) = R.map (IV.int .i64) := by
    apply List.ext_getElem (by rw [rowF_len, List.length_map, hRl])
    intro i h1 h2
    have hi : i < b.length := by rw [rowF_len] at h1; exact h1
    have e := rowF_get (fun m => if R.getD m 0 < (b.length : Int) then R.getD m 0 else 0) hi
    rw [List.getElem?_eq_getElem h1, Option.some.injEq] at e
    rw [e, List.getElem_map, if_pos (hri i hi).2, getD_el (by omega)]
  have hc0 : ¬ ((b.length : Int) = 0) := by omega
  refine PCalls.of_aw Try.func36 rfl (by unfold Callable; kernel_rfl) (by kernel_rfl) (by simp [Try.ntmps36]) ?_; rw [Try.ntmps36, Try.results36]; (simp (maxSteps := 1000000) (disch := first | exact dq | fail) only [go_sem])
  (repeat' (first
    | ((first | with_reducible (first | refine aw_seq ?_ | refine aw_region (aops_run ?_)) | (with_reducible refine aw_regionD (fun _ => .p) mixed ?_ (dops_run ?_); (· kernel_rfl)) | (with_reducible refine aw_regionD (fun _ => .r) mixed ?_ (dops_run ?_); (· kernel_rfl)) | with_reducible (first | refine aw_condK ?_ | refine aw_skip ?_ | refine aw_ret ?_ | refine aw_exit ?_ | refine aw_label ?_ | refine aw_block ?_ | refine aw_scope ?_ | refine And.intro ?_ ?_)) <;> (try (simp (maxSteps := 1000000) (disch := first | exact dq | fail) only [go_sem, hc0, decide_false])))
    | (with_reducible (first | refine wantK_split (fun h => ?_) (fun h => ?_) | refine condK_split (fun h => ?_) (fun h => ?_) | refine pickV_split (fun h => ?_) (fun h => ?_)) <;> (try (simp (maxSteps := 1000000) (disch := first | exact dq | fail) only [go_sem] at h)) <;> (try (simp (maxSteps := 1000000) (disch := first | exact dq | fail) only [go_sem, h, hc0, decide_false])))))
  ((first | with_reducible apply left_callf | with_reducible apply leftD_callf | with_reducible apply leftF_callf); (· with_reducible rfl); (· (simp (maxSteps := 1000000) (disch := first | exact dq | fail) only [go_sem]) <;> rfl); (· exact hS); try (simp (maxSteps := 1000000) (disch := first | exact dq | fail) only [go_sem]))
  (repeat' (first
    | ((first | with_reducible (first | refine aw_seq ?_ | refine aw_region (aops_run ?_)) | (with_reducible refine aw_regionD (fun _ => .p) mixed ?_ (dops_run ?_); (· kernel_rfl)) | (with_reducible refine aw_regionD (fun _ => .r) mixed ?_ (dops_run ?_); (· kernel_rfl)) | with_reducible (first | refine aw_condK ?_ | refine aw_skip ?_ | refine aw_ret ?_ | refine aw_exit ?_ | refine aw_label ?_ | refine aw_block ?_ | refine aw_scope ?_ | refine And.intro ?_ ?_)) <;> (try (simp (maxSteps := 1000000) (disch := first | exact dq | fail) only [go_sem])))
    | (with_reducible (first | refine wantK_split (fun h => ?_) (fun h => ?_) | refine condK_split (fun h => ?_) (fun h => ?_) | refine pickV_split (fun h => ?_) (fun h => ?_)) <;> (try (simp (maxSteps := 1000000) (disch := first | exact dq | fail) only [go_sem] at h)) <;> (try (simp (maxSteps := 1000000) (disch := first | exact dq | fail) only [go_sem, h])))))
  all_goals (try omega)
  refine aw_loop (α := Nat) (fun i => ⟨89, sl [(0, .iv (inl b)), (4, .msl 0 0 0 0), (5, .iv (inl D)), (6, .msl 1 0 b.length b.length), (7, .iv (.int .i64 i))], [.row true 3 1 [], .row true 3 1 (rowF b.length (fun m => if R.getD m 0 < (i : Int) then R.getD m 0 else 0))], 0⟩)
    (fun i => i ≤ b.length) (fun i => b.length - i) 0 (wk_by [1, 2] ?_) (by omega) ?_
  · have hz : List.replicate b.length (IV.int .i64 0) = rowF b.length (fun m => if R.getD m 0 < (0 : Int) then R.getD m 0 else 0) := by
      rw [rowF_rep]
      refine rowF_congr (fun m hm => ?_)
      rw [if_neg (by have := (hri m hm).1; omega)]
    (simp (maxSteps := 1000000) (disch := first | exact dq | fail) only [go_sem, hz])
  rintro i hi
  have hrl := rowF_len b.length (fun m => if R.getD m 0 < (i : Int) then R.getD m 0 else 0)
  by_cases hlt : i < b.length
  · have hc : (i : Int) < D.length := by omega
    obtain ⟨d, hd⟩ : ∃ d : Nat, D.getD i 0 = (d : Int) := ⟨(D.getD i 0).toNat, by have := hbr i hlt; omega⟩
    have hdl : d < b.length := by have := (hbr i hlt).2; omega
    have hgd : D[i]? = some (d : Int) := by rw [← hd]; simp [List.getD, List.getElem?_eq_getElem (show i < D.length by omega)]
    have hgr := rowF_get (n := b.length) (fun m => if R.getD m 0 < (i : Int) then R.getD m 0 else 0) hdl
    have hRd := hinv i hlt
    rw [hd, Int.toNat_natCast] at hRd
    have hset : (rowF b.length (fun m => if R.getD m 0 < (i : Int) then R.getD m 0 else 0)).set d (.int .i64 (i : Int)) = rowF b.length (fun m => if R.getD m 0 < ((i + 1 : Nat) : Int) then R.getD m 0 else 0) := by
      rw [rowF_set]
      refine rowF_congr (fun m hm => ?_)
      by_cases e : m = d
      · subst e; rw [if_pos rfl, hRd, if_pos (by omega)]
      · rw [if_neg e]
        have : R.getD m 0 ≠ i := fun g => e (by
          have := hinv2 m hm
          rw [g, Int.toNat_natCast, hd] at this; omega)
        by_cases g : R.getD m 0 < (i : Int)
        · rw [if_pos g, if_pos (by omega)]
        · rw [if_neg g, if_neg (by omega)]
    (repeat' (first
    | ((first | with_reducible (first | refine aw_seq ?_ | refine aw_region (aops_run ?_)) | (with_reducible refine aw_regionD (fun _ => .p) mixed ?_ (dops_run ?_); (· kernel_rfl)) | (with_reducible refine aw_regionD (fun _ => .r) mixed ?_ (dops_run ?_); (· kernel_rfl)) | with_reducible (first | refine aw_condK ?_ | refine aw_skip ?_ | refine aw_ret ?_ | refine aw_exit ?_ | refine aw_label ?_ | refine aw_block ?_ | refine aw_scope ?_ | refine And.intro ?_ ?_)) <;> (try (simp (maxSteps := 1000000) (disch := first | exact dq | fail) only [go_sem, hc, hgd, hgr, hrl, hset, decide_true])))
    | (with_reducible (first | refine wantK_split (fun h => ?_) (fun h => ?_) | refine condK_split (fun h => ?_) (fun h => ?_) | refine pickV_split (fun h => ?_) (fun h => ?_)) <;> (try (simp (maxSteps := 1000000) (disch := first | exact dq | fail) only [go_sem] at h)) <;> (try (simp (maxSteps := 1000000) (disch := first | exact dq | fail) only [go_sem, h, hc, hgd, hgr, hrl, hset, decide_true])))))
    all_goals (try omega)
    refine ⟨i + 1, by omega, wk_by [0, 1] ?_, by omega⟩
    (simp (maxSteps := 1000000) (disch := first | exact dq | fail) only [go_sem])
  · obtain rfl : i = b.length := by omega
    have hc : ¬ ((b.length : Int) < D.length) := by omega
    rw [hlast]
    refine aw_wk (wk_frz (i := 6) (y := inl R) (M' := [.row true 3 1 [], .row false 3 1 (R.map (IV.int .i64))]) ?_) ?_
    · (simp (maxSteps := 1000000) (disch := first | exact dq | fail) only [go_sem, hRl])
    (repeat' (first
    | ((first | with_reducible (first | refine aw_seq ?_ | refine aw_region (aops_run ?_)) | (with_reducible refine aw_regionD (fun _ => .p) mixed ?_ (dops_run ?_); (· kernel_rfl)) | (with_reducible refine aw_regionD (fun _ => .r) mixed ?_ (dops_run ?_); (· kernel_rfl)) | with_reducible (first | refine aw_condK ?_ | refine aw_skip ?_ | refine aw_ret ?_ | refine aw_exit ?_ | refine aw_label ?_ | refine aw_block ?_ | refine aw_scope ?_ | refine And.intro ?_ ?_)) <;> (try (simp (maxSteps := 1000000) (disch := first | exact dq | fail) only [go_sem, hc, decide_false])))
    | (with_reducible (first | refine wantK_split (fun h => ?_) (fun h => ?_) | refine condK_split (fun h => ?_) (fun h => ?_) | refine pickV_split (fun h => ?_) (fun h => ?_)) <;> (try (simp (maxSteps := 1000000) (disch := first | exact dq | fail) only [go_sem] at h)) <;> (try (simp (maxSteps := 1000000) (disch := first | exact dq | fail) only [go_sem, h, hc, decide_false])))))
    all_goals (try omega)
    refine aw_postE (β := Nat) (fun j => ⟨89, sl [(0, .iv (inl b)), (4, .msl 0 0 j j)], [.row true 3 1 ((bkL b j).map (IV.int .i64))], 0⟩)
      (fun j => j ≤ b.length ∧ (∀ i, i < j → b.getD (bkF b i) 0 ≠ -1) ∧ (j = b.length ∨ b.getD (bkF b j) 0 = -1)) ?_ ?_
    · refine aw_loop (α := Nat) (fun j => ⟨89, sl [(0, .iv (inl b)), (4, .msl 0 0 j j), (6, .iv (inl R)), (8, .iv (.int .i64 (bkF b j)))], [.row true 3 1 ((bkL b j).map (IV.int .i64))], 0⟩)
        (fun j => j ≤ b.length ∧ ∀ i, i < j → b.getD (bkF b i) 0 ≠ -1) (fun j => b.length - j) 0 (wk_by [0] ?_) ⟨by omega, fun i h => by omega⟩ ?_
      · (simp (maxSteps := 1000000) (disch := first | exact dq | fail) only [go_sem, hL0, hbk0])
      rintro j ⟨hj, hne⟩
      have hbj := hbl j
      have hLj := hLl j
      have hsj := hbks j
      by_cases hjl : j < b.length
      · have c1 : (j : Int) < b.length := by omega
        have hgb : b[bkF b j]? = some (b.getD (bkF b j) 0) := by simp [List.getD, List.getElem?_eq_getElem hbj]
        by_cases g : b.getD (bkF b j) 0 = -1
        · rw [g] at hgb
          (repeat' (first
    | ((first | with_reducible (first | refine aw_seq ?_ | refine aw_region (aops_run ?_)) | (with_reducible refine aw_regionD (fun _ => .p) mixed ?_ (dops_run ?_); (· kernel_rfl)) | (with_reducible refine aw_regionD (fun _ => .r) mixed ?_ (dops_run ?_); (· kernel_rfl)) | with_reducible (first | refine aw_condK ?_ | refine aw_skip ?_ | refine aw_ret ?_ | refine aw_exit ?_ | refine aw_label ?_ | refine aw_block ?_ | refine aw_scope ?_ | refine And.intro ?_ ?_)) <;> (try (simp (maxSteps := 1000000) (disch := first | exact dq | fail) only [go_sem, c1, hgb, decide_true, decide_false])))
    | (with_reducible (first | refine wantK_split (fun h => ?_) (fun h => ?_) | refine condK_split (fun h => ?_) (fun h => ?_) | refine pickV_split (fun h => ?_) (fun h => ?_)) <;> (try (simp (maxSteps := 1000000) (disch := first | exact dq | fail) only [go_sem] at h)) <;> (try (simp (maxSteps := 1000000) (disch := first | exact dq | fail) only [go_sem, h, c1, hgb, decide_true, decide_false])))))
          all_goals (try omega)
          refine ⟨j, ⟨hj, hne, .inr g⟩, wk_by [0] ?_⟩
          (simp (maxSteps := 1000000) (disch := first | exact dq | fail) only [go_sem])
        · obtain ⟨d, hd⟩ : ∃ d : Nat, R.getD (bkF b j) 0 = (d : Int) := ⟨(R.getD (bkF b j) 0).toNat, by have := hri (bkF b j) hbj; omega⟩
          have hgR : R[bkF b j]? = some (d : Int) := by rw [← hd]; simp [List.getD, List.getElem?_eq_getElem (show bkF b j < R.length by omega)]
          rw [hd, Int.toNat_natCast] at hsj
          have hLsj := hLs j
          have hne2 : ∀ i, i < j + 1 → b.getD (bkF b i) 0 ≠ -1 := fun i hi => by
            by_cases e : i = j
            · subst e; exact g
            · exact hne i (by omega)
          (repeat' (first
    | ((first | with_reducible (first | refine aw_seq ?_ | refine aw_region (aops_run ?_)) | (with_reducible refine aw_regionD (fun _ => .p) mixed ?_ (dops_run ?_); (· kernel_rfl)) | (with_reducible refine aw_regionD (fun _ => .r) mixed ?_ (dops_run ?_); (· kernel_rfl)) | with_reducible (first | refine aw_condK ?_ | refine aw_skip ?_ | refine aw_ret ?_ | refine aw_exit ?_ | refine aw_label ?_ | refine aw_block ?_ | refine aw_scope ?_ | refine And.intro ?_ ?_)) <;> (try (simp (maxSteps := 1000000) (disch := first | exact dq | fail) only [go_sem, c1, hgb, g, hgR, hLj, decide_true, decide_false])))
    | (with_reducible (first | refine wantK_split (fun h => ?_) (fun h => ?_) | refine condK_split (fun h => ?_) (fun h => ?_) | refine pickV_split (fun h => ?_) (fun h => ?_)) <;> (try (simp (maxSteps := 1000000) (disch := first | exact dq | fail) only [go_sem] at h)) <;> (try (simp (maxSteps := 1000000) (disch := first | exact dq | fail) only [go_sem, h, c1, hgb, g, hgR, hLj, decide_true, decide_false])))))
          all_goals (try omega)
          refine ⟨j + 1, ⟨by omega, hne2⟩, wk_by [0] ?_, by omega⟩
          (simp (maxSteps := 1000000) (disch := first | exact dq | fail) only [go_sem, hLsj, hsj, List.map_append])
      · obtain rfl : j = b.length := by omega
        have c1 : ¬ ((b.length : Int) < b.length) := by omega
        (repeat' (first
    | ((first | with_reducible (first | refine aw_seq ?_ | refine aw_region (aops_run ?_)) | (with_reducible refine aw_regionD (fun _ => .p) mixed ?_ (dops_run ?_); (· kernel_rfl)) | (with_reducible refine aw_regionD (fun _ => .r) mixed ?_ (dops_run ?_); (· kernel_rfl)) | with_reducible (first | refine aw_condK ?_ | refine aw_skip ?_ | refine aw_ret ?_ | refine aw_exit ?_ | refine aw_label ?_ | refine aw_block ?_ | refine aw_scope ?_ | refine And.intro ?_ ?_)) <;> (try (simp (maxSteps := 1000000) (disch := first | exact dq | fail) only [go_sem, c1, hLj, decide_false])))
    | (with_reducible (first | refine wantK_split (fun h => ?_) (fun h => ?_) | refine condK_split (fun h => ?_) (fun h => ?_) | refine pickV_split (fun h => ?_) (fun h => ?_)) <;> (try (simp (maxSteps := 1000000) (disch := first | exact dq | fail) only [go_sem] at h)) <;> (try (simp (maxSteps := 1000000) (disch := first | exact dq | fail) only [go_sem, h, c1, hLj, decide_false])))))
        all_goals (try omega)
        refine ⟨b.length, ⟨hj, hne, .inl rfl⟩, wk_by [0] ?_⟩
        (simp (maxSteps := 1000000) (disch := first | exact dq | fail) only [go_sem])
    · rintro j ⟨hj, hne, hend⟩
      obtain ⟨hr1, hr2⟩ := hr j hj hne hend
      have hLj := hLl j
      have hok : bkOk b j ↔ (∀ x ∈ (bkL b j).reverse, 0 ≤ x) ∧ turnL (bkL b j).reverse = b := Iff.rfl
      rw [hok] at hr1 hr2
      clear hok hr hne hend hLs hbks hbl hL0 hlast hri hinv hinv2 hbr hbk0 hRl hDl hS hLl
      generalize bkL b j = L at *
      refine aw_wk (wk_frz (i := 4) (y := inl L) (M' := [.row false 3 1 (L.map (IV.int .i64))]) ?_) ?_
      · (simp (maxSteps := 1000000) (disch := first | exact dq | fail) only [go_sem, hLj])
      (repeat' (first
    | ((first | with_reducible (first | refine aw_seq ?_ | refine aw_region (aops_run ?_)) | (with_reducible refine aw_regionD (fun _ => .p) mixed ?_ (dops_run ?_); (· kernel_rfl)) | (with_reducible refine aw_regionD (fun _ => .r) mixed ?_ (dops_run ?_); (· kernel_rfl)) | with_reducible (first | refine aw_condK ?_ | refine aw_skip ?_ | refine aw_ret ?_ | refine aw_exit ?_ | refine aw_label ?_ | refine aw_block ?_ | refine aw_scope ?_ | refine And.intro ?_ ?_)) <;> (try (simp (maxSteps := 1000000) (disch := first | exact dq | fail) only [go_sem])))
    | (with_reducible (first | refine wantK_split (fun h => ?_) (fun h => ?_) | refine condK_split (fun h => ?_) (fun h => ?_) | refine pickV_split (fun h => ?_) (fun h => ?_)) <;> (try (simp (maxSteps := 1000000) (disch := first | exact dq | fail) only [go_sem] at h)) <;> (try (simp (maxSteps := 1000000) (disch := first | exact dq | fail) only [go_sem, h])))))
      all_goals (try omega)
      have hrl : L.reverse.length = j := by rw [List.length_reverse, hLj]
      refine aw_loop (α := Nat) (fun k => ⟨89, sl [(0, .iv (inl b)), (4, .iv (inl L)), (9, .msl 0 0 k k), (10, .iv (.int .i64 ((j : Int) - 1 - k)))], [.row true 3 1 ((L.reverse.take k).map (IV.int .i64))], 0⟩)
        (fun k => k ≤ j) (fun k => j - k) 0 (wk_by [1] ?_) (by omega) ?_
      · (simp (maxSteps := 1000000) (disch := first | exact dq | fail) only [go_sem, hLj, Int.sub_zero])
      rintro k hk
      have htl : (L.reverse.take k).length = k := by rw [List.length_take]; omega
      by_cases hkj : k < j
      · have c1 : (j : Int) - 1 - k ≥ 0 := by omega
        have hix : ((j : Int) - 1 - k).toNat = j - 1 - k := by omega
        have hgL : L[j - 1 - k]? = some (L.reverse.getD k 0) := by
          rw [getD_el (by omega), List.getElem_reverse, List.getElem?_eq_getElem (by omega)]
          congr 2; omega
        have hts := take_snoc L.reverse (j := k) (by omega)
        generalize L.reverse.getD k 0 = z at *
        (repeat' (first
    | ((first | with_reducible (first | refine aw_seq ?_ | refine aw_region (aops_run ?_)) | (with_reducible refine aw_regionD (fun _ => .p) mixed ?_ (dops_run ?_); (· kernel_rfl)) | (with_reducible refine aw_regionD (fun _ => .r) mixed ?_ (dops_run ?_); (· kernel_rfl)) | with_reducible (first | refine aw_condK ?_ | refine aw_skip ?_ | refine aw_ret ?_ | refine aw_exit ?_ | refine aw_label ?_ | refine aw_block ?_ | refine aw_scope ?_ | refine And.intro ?_ ?_)) <;> (try (simp (maxSteps := 1000000) (disch := first | exact dq | fail) only [go_sem, c1, hix, hgL, htl, decide_true])))
    | (with_reducible (first | refine wantK_split (fun h => ?_) (fun h => ?_) | refine condK_split (fun h => ?_) (fun h => ?_) | refine pickV_split (fun h => ?_) (fun h => ?_)) <;> (try (simp (maxSteps := 1000000) (disch := first | exact dq | fail) only [go_sem] at h)) <;> (try (simp (maxSteps := 1000000) (disch := first | exact dq | fail) only [go_sem, h, c1, hix, hgL, htl, decide_true])))))
        all_goals (try omega)
        refine ⟨k + 1, by omega, wk_by [0] ?_, by omega⟩
        (simp (maxSteps := 1000000) (disch := first | exact dq | fail) only [go_sem, hts, List.map_append])
        congr 2; omega
      · obtain rfl : k = j := by omega
        have c1 : ¬ ((k : Int) - 1 - k ≥ 0) := by omega
        rw [List.take_of_length_le (by omega)]
        generalize L.reverse = o at *
        refine aw_wk (wk_frz (i := 9) (y := inl o) (M' := [.row false 3 1 (o.map (IV.int .i64))]) ?_) ?_
        · (simp (maxSteps := 1000000) (disch := first | exact dq | fail) only [go_sem, hrl])
        (repeat' (first
    | ((first | with_reducible (first | refine aw_seq ?_ | refine aw_region (aops_run ?_)) | (with_reducible refine aw_regionD (fun _ => .p) mixed ?_ (dops_run ?_); (· kernel_rfl)) | (with_reducible refine aw_regionD (fun _ => .r) mixed ?_ (dops_run ?_); (· kernel_rfl)) | with_reducible (first | refine aw_condK ?_ | refine aw_skip ?_ | refine aw_ret ?_ | refine aw_exit ?_ | refine aw_label ?_ | refine aw_block ?_ | refine aw_scope ?_ | refine And.intro ?_ ?_)) <;> (try (simp (maxSteps := 1000000) (disch := first | exact dq | fail) only [go_sem, c1, decide_false])))
    | (with_reducible (first | refine wantK_split (fun h => ?_) (fun h => ?_) | refine condK_split (fun h => ?_) (fun h => ?_) | refine pickV_split (fun h => ?_) (fun h => ?_)) <;> (try (simp (maxSteps := 1000000) (disch := first | exact dq | fail) only [go_sem] at h)) <;> (try (simp (maxSteps := 1000000) (disch := first | exact dq | fail) only [go_sem, h, c1, decide_false])))))
        all_goals (try omega)
        refine aw_loop (α := Nat) (fun i => ⟨89, sl [(0, .iv (inl b)), (9, .iv (inl o)), (11, .iv (.int .i64 i))], [], 0⟩)
          (fun i => i ≤ o.length ∧ ∀ q, q < i → 0 ≤ o.getD q 0) (fun i => o.length - i) 0 (wk_by [] ?_) ⟨by omega, fun q h => by omega⟩ ?_
        · (simp (maxSteps := 1000000) (disch := first | exact dq | fail) only [go_sem])
        rintro i ⟨hi, hnn⟩
        by_cases hio : i < o.length
        · have c2 : (i : Int) < o.length := by omega
          by_cases g : o.getD i 0 < 0
          · have hno := hr2 (fun h => by have := h.1 _ (getD_mem hio); omega)
            rw [hno]
            (repeat' (first
    | ((first | with_reducible (first | refine aw_seq ?_ | refine aw_region (aops_run ?_)) | (with_reducible refine aw_regionD (fun _ => .p) mixed ?_ (dops_run ?_); (· kernel_rfl)) | (with_reducible refine aw_regionD (fun _ => .r) mixed ?_ (dops_run ?_); (· kernel_rfl)) | with_reducible (first | refine aw_condK ?_ | refine aw_skip ?_ | refine aw_ret ?_ | refine aw_exit ?_ | refine aw_label ?_ | refine aw_block ?_ | refine aw_scope ?_ | refine And.intro ?_ ?_)) <;> (try (simp (maxSteps := 1000000) (disch := first | exact dq | fail) only [go_sem, c2, g, decide_true])))
    | (with_reducible (first | refine wantK_split (fun h => ?_) (fun h => ?_) | refine condK_split (fun h => ?_) (fun h => ?_) | refine pickV_split (fun h => ?_) (fun h => ?_)) <;> (try (simp (maxSteps := 1000000) (disch := first | exact dq | fail) only [go_sem] at h)) <;> (try (simp (maxSteps := 1000000) (disch := first | exact dq | fail) only [go_sem, h, c2, g, decide_true])))))
            all_goals (try omega)
          · (repeat' (first
    | ((first | with_reducible (first | refine aw_seq ?_ | refine aw_region (aops_run ?_)) | (with_reducible refine aw_regionD (fun _ => .p) mixed ?_ (dops_run ?_); (· kernel_rfl)) | (with_reducible refine aw_regionD (fun _ => .r) mixed ?_ (dops_run ?_); (· kernel_rfl)) | with_reducible (first | refine aw_condK ?_ | refine aw_skip ?_ | refine aw_ret ?_ | refine aw_exit ?_ | refine aw_label ?_ | refine aw_block ?_ | refine aw_scope ?_ | refine And.intro ?_ ?_)) <;> (try (simp (maxSteps := 1000000) (disch := first | exact dq | fail) only [go_sem, c2, g, decide_true, decide_false])))
    | (with_reducible (first | refine wantK_split (fun h => ?_) (fun h => ?_) | refine condK_split (fun h => ?_) (fun h => ?_) | refine pickV_split (fun h => ?_) (fun h => ?_)) <;> (try (simp (maxSteps := 1000000) (disch := first | exact dq | fail) only [go_sem] at h)) <;> (try (simp (maxSteps := 1000000) (disch := first | exact dq | fail) only [go_sem, h, c2, g, decide_true, decide_false])))))
            all_goals (try omega)
            refine ⟨i + 1, ⟨by omega, fun q hq => ?_⟩, wk_by [] ?_, by omega⟩
            · by_cases e : q = i
              · subst e; omega
              · exact hnn q (by omega)
            · (simp (maxSteps := 1000000) (disch := first | exact dq | fail) only [go_sem])
        · have c2 : ¬ ((i : Int) < o.length) := by omega
          have hall : ∀ x ∈ o, 0 ≤ x := fun x hx => by
            obtain ⟨q, hq, rfl⟩ := List.getElem_of_mem hx
            have := hnn q (by omega)
            rwa [getD_el hq] at this
          have hT := RefTurn_spec o (by omega)
          have hSm := RefSameI_spec (turnL o) b (by rw [turnL_len]; omega)
          by_cases g : turnL o = b
          · rw [decide_eq_true g] at hSm
            rw [hr1 ⟨hall, g⟩]
            (repeat' (first
    | ((first | with_reducible (first | refine aw_seq ?_ | refine aw_region (aops_run ?_)) | (with_reducible refine aw_regionD (fun _ => .p) mixed ?_ (dops_run ?_); (· kernel_rfl)) | (with_reducible refine aw_regionD (fun _ => .r) mixed ?_ (dops_run ?_); (· kernel_rfl)) | with_reducible (first | refine aw_condK ?_ | refine aw_skip ?_ | refine aw_ret ?_ | refine aw_exit ?_ | refine aw_label ?_ | refine aw_block ?_ | refine aw_scope ?_ | refine And.intro ?_ ?_)) <;> (try (simp (maxSteps := 1000000) (disch := first | exact dq | fail) only [go_sem, c2, decide_false])))
    | (with_reducible (first | refine wantK_split (fun h => ?_) (fun h => ?_) | refine condK_split (fun h => ?_) (fun h => ?_) | refine pickV_split (fun h => ?_) (fun h => ?_)) <;> (try (simp (maxSteps := 1000000) (disch := first | exact dq | fail) only [go_sem] at h)) <;> (try (simp (maxSteps := 1000000) (disch := first | exact dq | fail) only [go_sem, h, c2, decide_false])))))
            all_goals (try omega)
            ((first | with_reducible apply left_callf | with_reducible apply leftD_callf | with_reducible apply leftF_callf); (· with_reducible rfl); (· (simp (maxSteps := 1000000) (disch := first | exact dq | fail) only [go_sem]) <;> rfl); (· exact hT); try (simp (maxSteps := 1000000) (disch := first | exact dq | fail) only [go_sem]))
            (repeat' (first
    | ((first | with_reducible (first | refine aw_seq ?_ | refine aw_region (aops_run ?_)) | (with_reducible refine aw_regionD (fun _ => .p) mixed ?_ (dops_run ?_); (· kernel_rfl)) | (with_reducible refine aw_regionD (fun _ => .r) mixed ?_ (dops_run ?_); (· kernel_rfl)) | with_reducible (first | refine aw_condK ?_ | refine aw_skip ?_ | refine aw_ret ?_ | refine aw_exit ?_ | refine aw_label ?_ | refine aw_block ?_ | refine aw_scope ?_ | refine And.intro ?_ ?_)) <;> (try (simp (maxSteps := 1000000) (disch := first | exact dq | fail) only [go_sem])))
    | (with_reducible (first | refine wantK_split (fun h => ?_) (fun h => ?_) | refine condK_split (fun h => ?_) (fun h => ?_) | refine pickV_split (fun h => ?_) (fun h => ?_)) <;> (try (simp (maxSteps := 1000000) (disch := first | exact dq | fail) only [go_sem] at h)) <;> (try (simp (maxSteps := 1000000) (disch := first | exact dq | fail) only [go_sem, h])))))
            ((first | with_reducible apply left_callf | with_reducible apply leftD_callf | with_reducible apply leftF_callf); (· with_reducible rfl); (· (simp (maxSteps := 1000000) (disch := first | exact dq | fail) only [go_sem]) <;> rfl); (· exact hSm); try (simp (maxSteps := 1000000) (disch := first | exact dq | fail) only [go_sem]))
            (repeat' (first
    | ((first | with_reducible (first | refine aw_seq ?_ | refine aw_region (aops_run ?_)) | (with_reducible refine aw_regionD (fun _ => .p) mixed ?_ (dops_run ?_); (· kernel_rfl)) | (with_reducible refine aw_regionD (fun _ => .r) mixed ?_ (dops_run ?_); (· kernel_rfl)) | with_reducible (first | refine aw_condK ?_ | refine aw_skip ?_ | refine aw_ret ?_ | refine aw_exit ?_ | refine aw_label ?_ | refine aw_block ?_ | refine aw_scope ?_ | refine And.intro ?_ ?_)) <;> (try (simp (maxSteps := 1000000) (disch := first | exact dq | fail) only [go_sem])))
    | (with_reducible (first | refine wantK_split (fun h => ?_) (fun h => ?_) | refine condK_split (fun h => ?_) (fun h => ?_) | refine pickV_split (fun h => ?_) (fun h => ?_)) <;> (try (simp (maxSteps := 1000000) (disch := first | exact dq | fail) only [go_sem] at h)) <;> (try (simp (maxSteps := 1000000) (disch := first | exact dq | fail) only [go_sem, h])))))
          · rw [decide_eq_false g] at hSm
            rw [hr2 (fun h => g h.2)]
            (repeat' (first
    | ((first | with_reducible (first | refine aw_seq ?_ | refine aw_region (aops_run ?_)) | (with_reducible refine aw_regionD (fun _ => .p) mixed ?_ (dops_run ?_); (· kernel_rfl)) | (with_reducible refine aw_regionD (fun _ => .r) mixed ?_ (dops_run ?_); (· kernel_rfl)) | with_reducible (first | refine aw_condK ?_ | refine aw_skip ?_ | refine aw_ret ?_ | refine aw_exit ?_ | refine aw_label ?_ | refine aw_block ?_ | refine aw_scope ?_ | refine And.intro ?_ ?_)) <;> (try (simp (maxSteps := 1000000) (disch := first | exact dq | fail) only [go_sem, c2, decide_false])))
    | (with_reducible (first | refine wantK_split (fun h => ?_) (fun h => ?_) | refine condK_split (fun h => ?_) (fun h => ?_) | refine pickV_split (fun h => ?_) (fun h => ?_)) <;> (try (simp (maxSteps := 1000000) (disch := first | exact dq | fail) only [go_sem] at h)) <;> (try (simp (maxSteps := 1000000) (disch := first | exact dq | fail) only [go_sem, h, c2, decide_false])))))
            all_goals (try omega)
            ((first | with_reducible apply left_callf | with_reducible apply leftD_callf | with_reducible apply leftF_callf); (· with_reducible rfl); (· (simp (maxSteps := 1000000) (disch := first | exact dq | fail) only [go_sem]) <;> rfl); (· exact hT); try (simp (maxSteps := 1000000) (disch := first | exact dq | fail) only [go_sem]))
            (repeat' (first
    | ((first | with_reducible (first | refine aw_seq ?_ | refine aw_region (aops_run ?_)) | (with_reducible refine aw_regionD (fun _ => .p) mixed ?_ (dops_run ?_); (· kernel_rfl)) | (with_reducible refine aw_regionD (fun _ => .r) mixed ?_ (dops_run ?_); (· kernel_rfl)) | with_reducible (first | refine aw_condK ?_ | refine aw_skip ?_ | refine aw_ret ?_ | refine aw_exit ?_ | refine aw_label ?_ | refine aw_block ?_ | refine aw_scope ?_ | refine And.intro ?_ ?_)) <;> (try (simp (maxSteps := 1000000) (disch := first | exact dq | fail) only [go_sem])))
    | (with_reducible (first | refine wantK_split (fun h => ?_) (fun h => ?_) | refine condK_split (fun h => ?_) (fun h => ?_) | refine pickV_split (fun h => ?_) (fun h => ?_)) <;> (try (simp (maxSteps := 1000000) (disch := first | exact dq | fail) only [go_sem] at h)) <;> (try (simp (maxSteps := 1000000) (disch := first | exact dq | fail) only [go_sem, h])))))
            ((first | with_reducible apply left_callf | with_reducible apply leftD_callf | with_reducible apply leftF_callf); (· with_reducible rfl); (· (simp (maxSteps := 1000000) (disch := first | exact dq | fail) only [go_sem]) <;> rfl); (· exact hSm); try (simp (maxSteps := 1000000) (disch := first | exact dq | fail) only [go_sem]))
            (repeat' (first
    | ((first | with_reducible (first | refine aw_seq ?_ | refine aw_region (aops_run ?_)) | (with_reducible refine aw_regionD (fun _ => .p) mixed ?_ (dops_run ?_); (· kernel_rfl)) | (with_reducible refine aw_regionD (fun _ => .r) mixed ?_ (dops_run ?_); (· kernel_rfl)) | with_reducible (first | refine aw_condK ?_ | refine aw_skip ?_ | refine aw_ret ?_ | refine aw_exit ?_ | refine aw_label ?_ | refine aw_block ?_ | refine aw_scope ?_ | refine And.intro ?_ ?_)) <;> (try (simp (maxSteps := 1000000) (disch := first | exact dq | fail) only [go_sem])))
    | (with_reducible (first | refine wantK_split (fun h => ?_) (fun h => ?_) | refine condK_split (fun h => ?_) (fun h => ?_) | refine pickV_split (fun h => ?_) (fun h => ?_)) <;> (try (simp (maxSteps := 1000000) (disch := first | exact dq | fail) only [go_sem] at h)) <;> (try (simp (maxSteps := 1000000) (disch := first | exact dq | fail) only [go_sem, h])))))
theorem RefBack_spec (b : List Int) (hl : b.length ≤ 90000) : (Rnd b → PCalls Try.prog 36 [inl b] (.tup [inl (outP b), .bool true])) ∧
    (¬ Rnd b → PCalls Try.prog 36 [inl b] (.tup [inl [], .bool false])) := by
  refine ⟨fun h => ?_, fun h => ?_⟩
  · refine RefBack_gen b h.pos hl _ (fun j h1 h2 h3 => ?_)
    have e := bk_rnd h h1 h2 h3
    have hok : bkOk b j := by
      unfold bkOk
      rw [e]; exact ⟨h.nn, h.turn⟩
    exact ⟨fun _ => by rw [e], fun hn => absurd hok hn⟩
  · by_cases h0 : 0 < b.length
    · refine RefBack_gen b h0 hl _ (fun j h1 h2 h3 => ⟨fun hok => ?_, fun _ => rfl⟩)
      have := turn_rnd hok.1
      rw [hok.2] at this
      exact absurd this h
    · have : b = [] := List.eq_nil_of_length_eq_zero (by omega)
      subst this
      refine PCalls.of_aw Try.func36 rfl (by unfold Callable; kernel_rfl) (by kernel_rfl) (by simp [Try.ntmps36]) ?_; rw [Try.ntmps36, Try.results36]; (simp (disch := first | exact dq | fail) only [go_sem])
      (repeat' (first
    | ((first | with_reducible (first | refine aw_seq ?_ | refine aw_region (aops_run ?_)) | (with_reducible refine aw_regionD (fun _ => .p) mixed ?_ (dops_run ?_); (· kernel_rfl)) | (with_reducible refine aw_regionD (fun _ => .r) mixed ?_ (dops_run ?_); (· kernel_rfl)) | with_reducible (first | refine aw_condK ?_ | refine aw_skip ?_ | refine aw_ret ?_ | refine aw_exit ?_ | refine aw_label ?_ | refine aw_block ?_ | refine aw_scope ?_ | refine And.intro ?_ ?_)) <;> (try (simp (disch := first | exact dq | fail) only [go_sem])))
    | (with_reducible (first | refine wantK_split (fun h => ?_) (fun h => ?_) | refine condK_split (fun h => ?_) (fun h => ?_) | refine pickV_split (fun h => ?_) (fun h => ?_)) <;> (try (simp (disch := first | exact dq | fail) only [go_sem] at h)) <;> (try (simp (disch := first | exact dq | fail) only [go_sem, h])))))
theorem nxt_take {l : List Int} {i : Nat} (h : i < l.length) : (nxtS l).take (i + 2) = (nxtS l).take (i + 1) ++ [(rkS l (((saL l).getD i 0).toNat + 1) : Int)] := by
  rw [take_snoc _ (by rw [nxtS_len]; omega), nxt_at (by omega), if_neg (by omega)]
  unfold rwN
  rw [if_neg (by omega), Nat.add_sub_cancel]
theorem nxt_one (l : List Int) : (nxtS l).take 1 = [(rkS l 0 : Int)] := by
  rw [take_snoc (j := 0) _ (by rw [nxtS_len]; omega), nxt_at (Nat.zero_le _)]
  rfl
def rkP (l : List Int) (i m : Nat) : Int := if m < l.length ∧ rkN l m < i then (rkN l m : Int) + 1 else 0
set_option maxHeartbeats 2000000 in
theorem RefNext_spec (l : List Int) (hl : l.length ≤ 90000) : PCalls Try.prog 38 [inl l] (inl (nxtS l)) := by
  have hA := RefArray7_spec l (by omega)
  obtain ⟨z, hz⟩ : ∃ z, z = l.length + 1 := ⟨_, rfl⟩
  have hz1 : (l.length : Int) + 1 = (z : Int) := by omega
  have hsl := saL_len l
  have hnl := nxtS_len l
  have hone := nxt_one l
  have htk := fun i => @nxt_take l i
  have hsr := fun i => @saL_rng l i
  have hlast : (nxtS l).take (l.length + 1) = nxtS l := List.take_of_length_le (by omega)
  have hrs := fun r => @rk_sa l r
  have hre := fun i => @rkN_eq l i
  have hsa := fun i => @sa_rkN l i
  have hT : rowF z (rkP l l.length) = rowF z (fun m => (rkS l m : Int)) := by
    refine rowF_congr (fun m hm => ?_)
    unfold rkP rkS
    by_cases e : m = l.length
    · rw [if_neg (by omega), if_pos e]; rfl
    · have := rkN_lt (l := l) (i := m) (by omega)
      rw [if_pos (by omega), if_neg e]; omega
  have hrkl := fun i => @rkS_le l i
  generalize nxtS l = t at *
  generalize saL l = s at *
  refine PCalls.of_aw Try.func38 rfl (by unfold Callable; kernel_rfl) (by kernel_rfl) (by simp [Try.ntmps38]) ?_; rw [Try.ntmps38, Try.results38]; (simp (maxSteps := 1000000) (disch := first | exact dq | fail) only [go_sem])
  (repeat' (first
    | ((first | with_reducible (first | refine aw_seq ?_ | refine aw_region (aops_run ?_)) | (with_reducible refine aw_regionD (fun _ => .p) mixed ?_ (dops_run ?_); (· kernel_rfl)) | (with_reducible refine aw_regionD (fun _ => .r) mixed ?_ (dops_run ?_); (· kernel_rfl)) | with_reducible (first | refine aw_condK ?_ | refine aw_skip ?_ | refine aw_ret ?_ | refine aw_exit ?_ | refine aw_label ?_ | refine aw_block ?_ | refine aw_scope ?_ | refine And.intro ?_ ?_)) <;> (try (simp (maxSteps := 1000000) (disch := first | exact dq | fail) only [go_sem])))
    | (with_reducible (first | refine wantK_split (fun h => ?_) (fun h => ?_) | refine condK_split (fun h => ?_) (fun h => ?_) | refine pickV_split (fun h => ?_) (fun h => ?_)) <;> (try (simp (maxSteps := 1000000) (disch := first | exact dq | fail) only [go_sem] at h)) <;> (try (simp (maxSteps := 1000000) (disch := first | exact dq | fail) only [go_sem, h])))))
  ((first | with_reducible apply left_callf | with_reducible apply leftD_callf | with_reducible apply leftF_callf); (· with_reducible rfl); (· (simp (maxSteps := 1000000) (disch := first | exact dq | fail) only [go_sem]) <;> rfl); (· exact hA); try (simp (maxSteps := 1000000) (disch := first | exact dq | fail) only [go_sem]))
  (repeat' (first
    | ((first | with_reducible (first | refine aw_seq ?_ | refine aw_region (aops_run ?_)) | (with_reducible refine aw_regionD (fun _ => .p) mixed ?_ (dops_run ?_); (· kernel_rfl)) | (with_reducible refine aw_regionD (fun _ => .r) mixed ?_ (dops_run ?_); (· kernel_rfl)) | with_reducible (first | refine aw_condK ?_ | refine aw_skip ?_ | refine aw_ret ?_ | refine aw_exit ?_ | refine aw_label ?_ | refine aw_block ?_ | refine aw_scope ?_ | refine And.intro ?_ ?_)) <;> (try (simp (maxSteps := 1000000) (disch := first | exact dq | fail) only [go_sem, hz1])))
    | (with_reducible (first | refine wantK_split (fun h => ?_) (fun h => ?_) | refine condK_split (fun h => ?_) (fun h => ?_) | refine pickV_split (fun h => ?_) (fun h => ?_)) <;> (try (simp (maxSteps := 1000000) (disch := first | exact dq | fail) only [go_sem] at h)) <;> (try (simp (maxSteps := 1000000) (disch := first | exact dq | fail) only [go_sem, h, hz1])))))
  all_goals (try omega)
  refine aw_loop (α := Nat) (fun i => ⟨50, sl [(3, .iv (inl s)), (4, .msl 0 0 z z), (5, .iv (.int .i64 i))], [.row true 3 1 (rowF z (rkP l i))], 0⟩)
    (fun i => i ≤ l.length) (fun i => l.length - i) 0 (wk_by [1] ?_) (by omega) ?_
  · have hzz : rowF z (rkP l 0) = List.replicate z (IV.int .i64 0) := by
      rw [rowF_rep]
      exact rowF_congr (fun m hm => by unfold rkP; rw [if_neg (by omega)])
    (simp (maxSteps := 1000000) (disch := first | exact dq | fail) only [go_sem, hzz])
  rintro i hi
  have hrl := rowF_len z (rkP l i)
  by_cases hlt : i < l.length
  · have hc : (i : Int) < s.length := by omega
    obtain ⟨a, ha⟩ : ∃ a : Nat, s.getD i 0 = (a : Int) := ⟨(s.getD i 0).toNat, by have := hsr i hlt; omega⟩
    have hal : a < l.length := by have := (hsr i hlt).2; omega
    have hga : s[i]? = some (a : Int) := by rw [← ha]; simp [List.getD, List.getElem?_eq_getElem (show i < s.length by omega)]
    have hra := hrs i hlt
    rw [ha, Int.toNat_natCast, hre a hal] at hra
    have hgr := rowF_get (n := z) (rkP l i) (show a < z by omega)
    have hset : (rowF z (rkP l i)).set a (.int .i64 ((i : Int) + 1)) = rowF z (rkP l (i + 1)) := by
      rw [rowF_set]
      refine rowF_congr (fun m hm => ?_)
      unfold rkP
      by_cases e : m = a
      · subst e; rw [if_pos rfl, if_pos (by omega)]; omega
      · rw [if_neg e]
        by_cases g : m < l.length
        · have : rkN l m ≠ i := fun g2 => e (by
            have h3 := hsa m g
            rw [g2, ha] at h3; omega)
          by_cases g3 : rkN l m < i
          · rw [if_pos ⟨g, g3⟩, if_pos ⟨g, by omega⟩]
          · rw [if_neg (by omega), if_neg (by omega)]
        · rw [if_neg (by omega), if_neg (by omega)]
    (repeat' (first
    | ((first | with_reducible (first | refine aw_seq ?_ | refine aw_region (aops_run ?_)) | (with_reducible refine aw_regionD (fun _ => .p) mixed ?_ (dops_run ?_); (· kernel_rfl)) | (with_reducible refine aw_regionD (fun _ => .r) mixed ?_ (dops_run ?_); (· kernel_rfl)) | with_reducible (first | refine aw_condK ?_ | refine aw_skip ?_ | refine aw_ret ?_ | refine aw_exit ?_ | refine aw_label ?_ | refine aw_block ?_ | refine aw_scope ?_ | refine And.intro ?_ ?_)) <;> (try (simp (maxSteps := 1000000) (disch := first | exact dq | fail) only [go_sem, hc, hga, hgr, hrl, hset, decide_true])))
    | (with_reducible (first | refine wantK_split (fun h => ?_) (fun h => ?_) | refine condK_split (fun h => ?_) (fun h => ?_) | refine pickV_split (fun h => ?_) (fun h => ?_)) <;> (try (simp (maxSteps := 1000000) (disch := first | exact dq | fail) only [go_sem] at h)) <;> (try (simp (maxSteps := 1000000) (disch := first | exact dq | fail) only [go_sem, h, hc, hga, hgr, hrl, hset, decide_true])))))
    all_goals (try omega)
    refine ⟨i + 1, by omega, wk_by [0] ?_, by omega⟩
    (simp (maxSteps := 1000000) (disch := first | exact dq | fail) only [go_sem])
  · obtain rfl : i = l.length := by omega
    have hc : ¬ ((l.length : Int) < s.length) := by omega
    rw [hT] at hrl ⊢
    have hg0 := rowF_get (n := z) (fun m => (rkS l m : Int)) (show 0 < z by omega)
    (repeat' (first
    | ((first | with_reducible (first | refine aw_seq ?_ | refine aw_region (aops_run ?_)) | (with_reducible refine aw_regionD (fun _ => .p) mixed ?_ (dops_run ?_); (· kernel_rfl)) | (with_reducible refine aw_regionD (fun _ => .r) mixed ?_ (dops_run ?_); (· kernel_rfl)) | with_reducible (first | refine aw_condK ?_ | refine aw_skip ?_ | refine aw_ret ?_ | refine aw_exit ?_ | refine aw_label ?_ | refine aw_block ?_ | refine aw_scope ?_ | refine And.intro ?_ ?_)) <;> (try (simp (maxSteps := 1000000) (disch := first | exact dq | fail) only [go_sem, hc, hrl, hg0, decide_false])))
    | (with_reducible (first | refine wantK_split (fun h => ?_) (fun h => ?_) | refine condK_split (fun h => ?_) (fun h => ?_) | refine pickV_split (fun h => ?_) (fun h => ?_)) <;> (try (simp (maxSteps := 1000000) (disch := first | exact dq | fail) only [go_sem] at h)) <;> (try (simp (maxSteps := 1000000) (disch := first | exact dq | fail) only [go_sem, h, hc, hrl, hg0, decide_false])))))
    all_goals (try omega)
    refine aw_loop (α := Nat) (fun i => ⟨50, sl [(3, .iv (inl s)), (4, .msl 0 0 z z), (6, .msl 1 0 (i + 1) (i + 1)), (7, .iv (.int .i64 i))], [.row true 3 1 (rowF z (fun m => (rkS l m : Int))), .row true 3 1 ((t.take (i + 1)).map (IV.int .i64))], 0⟩)
      (fun i => i ≤ l.length) (fun i => l.length - i) 0 (wk_by [0, 1] ?_) (by omega) ?_
    · (simp (maxSteps := 1000000) (disch := first | exact dq | fail) only [go_sem, hone])
    clear hi hlt
    rintro i hi
    have htl : (t.take (i + 1)).length = i + 1 := by rw [List.length_take]; omega
    by_cases hlt : i < l.length
    · have hc : (i : Int) < s.length := by omega
      obtain ⟨a, ha⟩ : ∃ a : Nat, s.getD i 0 = (a : Int) := ⟨(s.getD i 0).toNat, by have := hsr i hlt; omega⟩
      have hal : a < l.length := by have := (hsr i hlt).2; omega
      have hga : s[i]? = some (a : Int) := by rw [← ha]; simp [List.getD, List.getElem?_eq_getElem (show i < s.length by omega)]
      have hts := htk i hlt
      rw [ha, Int.toNat_natCast] at hts
      have ha1 : ((a : Int) + 1).toNat = a + 1 := by omega
      have hg := rowF_get (n := z) (fun m => (rkS l m : Int)) (show a + 1 < z by omega)
      (repeat' (first
    | ((first | with_reducible (first | refine aw_seq ?_ | refine aw_region (aops_run ?_)) | (with_reducible refine aw_regionD (fun _ => .p) mixed ?_ (dops_run ?_); (· kernel_rfl)) | (with_reducible refine aw_regionD (fun _ => .r) mixed ?_ (dops_run ?_); (· kernel_rfl)) | with_reducible (first | refine aw_condK ?_ | refine aw_skip ?_ | refine aw_ret ?_ | refine aw_exit ?_ | refine aw_label ?_ | refine aw_block ?_ | refine aw_scope ?_ | refine And.intro ?_ ?_)) <;> (try (simp (maxSteps := 1000000) (disch := first | exact dq | fail) only [go_sem, hc, hga, ha1, hg, hrl, htl, decide_true])))
    | (with_reducible (first | refine wantK_split (fun h => ?_) (fun h => ?_) | refine condK_split (fun h => ?_) (fun h => ?_) | refine pickV_split (fun h => ?_) (fun h => ?_)) <;> (try (simp (maxSteps := 1000000) (disch := first | exact dq | fail) only [go_sem] at h)) <;> (try (simp (maxSteps := 1000000) (disch := first | exact dq | fail) only [go_sem, h, hc, hga, ha1, hg, hrl, htl, decide_true])))))
      all_goals (try omega)
      refine ⟨i + 1, by omega, wk_by [0, 1] ?_, by omega⟩
      (simp (maxSteps := 1000000) (disch := first | exact dq | fail) only [go_sem, hts, List.map_append])
    · obtain rfl : i = l.length := by omega
      have hc : ¬ ((l.length : Int) < s.length) := by omega
      rw [hlast]
      (repeat' (first
    | ((first | with_reducible (first | refine aw_seq ?_ | refine aw_region (aops_run ?_)) | (with_reducible refine aw_regionD (fun _ => .p) mixed ?_ (dops_run ?_); (· kernel_rfl)) | (with_reducible refine aw_regionD (fun _ => .r) mixed ?_ (dops_run ?_); (· kernel_rfl)) | with_reducible (first | refine aw_condK ?_ | refine aw_skip ?_ | refine aw_ret ?_ | refine aw_exit ?_ | refine aw_label ?_ | refine aw_block ?_ | refine aw_scope ?_ | refine And.intro ?_ ?_)) <;> (try (simp (maxSteps := 1000000) (disch := first | exact dq | fail) only [go_sem, hc, hnl, decide_false])))
    | (with_reducible (first | refine wantK_split (fun h => ?_) (fun h => ?_) | refine condK_split (fun h => ?_) (fun h => ?_) | refine pickV_split (fun h => ?_) (fun h => ?_)) <;> (try (simp (maxSteps := 1000000) (disch := first | exact dq | fail) only [go_sem] at h)) <;> (try (simp (maxSteps := 1000000) (disch := first | exact dq | fail) only [go_sem, h, hc, hnl, decide_false])))))
      all_goals (try omega)
      all_goals (try (rw [List.take_of_length_le (by rw [List.length_map]; omega)]))
end Go.Proofs.Ytejhomoafhnipaa.AM
