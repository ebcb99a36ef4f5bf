
/- Chapter 6: lists that rise. No condition. -/
import Derived.Test.YtebegdnebjjnmaaO10
set_option linter.unusedVariables false
set_option linter.unusedSimpArgs false
set_option maxRecDepth 20000
namespace Go.Proofs.Ytebegdnebjjnmaa.AM
open Go Go.RowKit

/-- 64 cells that tell whether. -/
def boolC (f : Nat → Bool) : List AV := (List.range 64).map fun m => .iv (.bool (f m))
theorem boolC_len (f : Nat → Bool) : (boolC f).length = 64 := by simp [boolC]
theorem boolC_get (f : Nat → Bool) {i : Nat} (h : i < 64) : (boolC f)[i]? = some (.iv (.bool (f i))) := by simp [boolC, h]
theorem boolC_set (f : Nat → Bool) (i : Nat) (v : Bool) : (boolC f).set i (.iv (.bool v)) = boolC fun m => if m = i then v else f m := by
  apply List.ext_getElem (by simp [boolC])
  intro j h1 h2
  rw [List.getElem_set]
  simp only [boolC, List.getElem_map, List.getElem_range]
  by_cases e : i = j
  · rw [if_pos e, if_pos e.symm]
  · rw [if_neg e, if_neg (fun h => e h.symm)]
theorem boolC_zero : boolC (fun _ => false) = List.replicate 64 (.iv (.bool false)) := rfl
theorem rens_ivs (σ : Nat → Nat) (f : Nat → IV) : ∀ l : List Nat, rens σ (l.map fun m => .iv (f m)) = l.map fun m => .iv (f m)
  | [] => rfl
  | m :: l => by rw [List.map_cons, rens_cons, ren_iv, rens_ivs σ f l]
@[go_sem] theorem rens_boolC (σ : Nat → Nat) (f : Nat → Bool) : rens σ (boolC f) = boolC f := rens_ivs σ _ _
/-- Is a number among the first ones, by its lowest bits? -/
def hasF (l : List Int) (i m : Nat) : Bool := (l.take i).any fun z => z % 64 == (m : Int)
theorem hasF_succ (l : List Int) {i : Nat} (h : i < l.length) (m : Nat) : hasF l (i + 1) m = if m = (l.getD i 0 % 64).toNat then true else hasF l i m := by
  unfold hasF
  rw [any_take_succ _ _ h]
  have h1 := Int.emod_nonneg (l.getD i 0) (show (64 : Int) ≠ 0 by decide)
  by_cases e : m = (l.getD i 0 % 64).toNat
  · rw [if_pos e, show (l.getD i 0 % 64 == (m : Int)) = true by rw [beq_iff_eq]; omega, Bool.or_true]
  · rw [if_neg e, show (l.getD i 0 % 64 == (m : Int)) = false by rw [beq_eq_false_iff_ne]; omega, Bool.or_false]
/-- The numbers from s on, n of them, for which something holds. -/
def risF (s : Nat) : Nat → (Nat → Bool) → List Int
  | 0, _ => []
  | n + 1, f => (if f s then [(s : Int)] else []) ++ risF (s + 1) n f
theorem risF_snoc (f : Nat → Bool) : ∀ (n s : Nat), risF s (n + 1) f = risF s n f ++ (if f (s + n) then [((s + n : Nat) : Int)] else [])
  | 0, s => by simp [risF]
  | n + 1, s => by
    have := risF_snoc f n (s + 1)
    rw [risF, this, risF, List.append_assoc, show s + 1 + n = s + (n + 1) by omega]
theorem risF_len (f : Nat → Bool) : ∀ (n s : Nat), (risF s n f).length ≤ n
  | 0, s => by simp [risF]
  | n + 1, s => by
    have := risF_len f n (s + 1)
    rw [risF, List.length_append]
    split <;> simp <;> omega
theorem and63 (z : Int) : bitI .and .i64 z 63 = z % 64 := and_maskS z 64 6 (by decide) rfl
theorem rising_spec (l : List Int) (hl : l.length ≤ 9223372036854775807) : PCalls Try.prog 21 [inl l] (inl (risF 0 64 (hasF l 64))) := by
  refine PCalls.of_aw Try.func21 rfl (by unfold Callable; kernel_rfl) (by kernel_rfl) (by simp [Try.ntmps21]) ?_; rw [Try.ntmps21, Try.results21]; (simp (maxSteps := 1000000) (disch := first | omega | (simp only [List.length_append, List.length_cons, List.length_nil, List.length_map, bitsOf_len, readB_len, Int.natCast_add, Int.natCast_succ, Nat.zero_add, natCast_one, natCast_zero] <;> omega) | fail) only [go_sem])
  (repeat' (first
    | ((first | with_reducible refine aw_seq ?_ | with_reducible refine aw_region (aops_run ?_) | (with_reducible refine aw_regionD (fun _ => .p) mixed ?_ (dops_run ?_); (· kernel_rfl)) | (with_reducible refine aw_regionD (fun _ => .r) mixed ?_ (dops_run ?_); (· kernel_rfl)) | with_reducible refine aw_condK ?_ | with_reducible refine aw_skip ?_ | with_reducible refine aw_ret ?_ | with_reducible refine aw_exit ?_ | with_reducible refine aw_label ?_ | with_reducible refine aw_block ?_ | with_reducible refine aw_scope ?_ | with_reducible refine And.intro ?_ ?_) <;> (try (simp (maxSteps := 1000000) (disch := first | omega | (simp only [List.length_append, List.length_cons, List.length_nil, List.length_map, bitsOf_len, readB_len, Int.natCast_add, Int.natCast_succ, Nat.zero_add, natCast_one, natCast_zero] <;> omega) | fail) only [go_sem])))
    | ((first | with_reducible refine wantK_split (fun h => ?_) (fun h => ?_) | with_reducible refine condK_split (fun h => ?_) (fun h => ?_) | with_reducible refine pickV_split (fun h => ?_) (fun h => ?_)) <;> (try (simp (maxSteps := 1000000) (disch := first | omega | (simp only [List.length_append, List.length_cons, List.length_nil, List.length_map, bitsOf_len, readB_len, Int.natCast_add, Int.natCast_succ, Nat.zero_add, natCast_one, natCast_zero] <;> omega) | fail) only [go_sem] at h)) <;> (try (simp (maxSteps := 1000000) (disch := first | omega | (simp only [List.length_append, List.length_cons, List.length_nil, List.length_map, bitsOf_len, readB_len, Int.natCast_add, Int.natCast_succ, Nat.zero_add, natCast_one, natCast_zero] <;> omega) | fail) only [go_sem, h])))))
  refine aw_loop (α := Nat) (fun i => ⟨35, sl [(0, .iv (inl l)), (3, .mp 0 0), (4, .iv (.int .i64 i))], [.var 47 (boolC (hasF l i))], 0⟩)
    (fun i => i ≤ l.length ∧ i ≤ 64) (fun i => 64 - i) 0 (wk_by [1] ?_) (by omega) ?_
  · (simp (maxSteps := 1000000) (disch := first | omega | (simp only [List.length_append, List.length_cons, List.length_nil, List.length_map, bitsOf_len, readB_len, Int.natCast_add, Int.natCast_succ, Nat.zero_add, natCast_one, natCast_zero] <;> omega) | fail) only [go_sem])
    rfl
  rintro i ⟨hi, hi64⟩
  have hcl := boolC_len (hasF l i)
  by_cases hlt : i < l.length ∧ i < 64
  · have hr := Int.emod_nonneg (l.getD i 0) (show (64 : Int) ≠ 0 by decide)
    have hr2 := Int.emod_lt_of_pos (l.getD i 0) (show (0 : Int) < 64 by decide)
    have hs := boolC_set (hasF l i) (l.getD i 0 % 64).toNat true
    have hf : (fun m => if m = (l.getD i 0 % 64).toNat then true else hasF l i m) = hasF l (i + 1) := funext fun m => (hasF_succ l hlt.1 m).symm
    rw [hf] at hs
    have hg := boolC_get (hasF l i) (i := (l.getD i 0 % 64).toNat) (by omega)
    (repeat' (first
    | ((first | with_reducible refine aw_seq ?_ | with_reducible refine aw_region (aops_run ?_) | (with_reducible refine aw_regionD (fun _ => .p) mixed ?_ (dops_run ?_); (· kernel_rfl)) | (with_reducible refine aw_regionD (fun _ => .r) mixed ?_ (dops_run ?_); (· kernel_rfl)) | with_reducible refine aw_condK ?_ | with_reducible refine aw_skip ?_ | with_reducible refine aw_ret ?_ | with_reducible refine aw_exit ?_ | with_reducible refine aw_label ?_ | with_reducible refine aw_block ?_ | with_reducible refine aw_scope ?_ | with_reducible refine And.intro ?_ ?_) <;> (try (simp (maxSteps := 1000000) (disch := first | omega | (simp only [List.length_append, List.length_cons, List.length_nil, List.length_map, bitsOf_len, readB_len, Int.natCast_add, Int.natCast_succ, Nat.zero_add, natCast_one, natCast_zero] <;> omega) | fail) only [go_sem, hcl, hs, hg, and63, Nat.mul_one, Nat.zero_add])))
    | ((first | with_reducible refine wantK_split (fun h => ?_) (fun h => ?_) | with_reducible refine condK_split (fun h => ?_) (fun h => ?_) | with_reducible refine pickV_split (fun h => ?_) (fun h => ?_)) <;> (try (simp (maxSteps := 1000000) (disch := first | omega | (simp only [List.length_append, List.length_cons, List.length_nil, List.length_map, bitsOf_len, readB_len, Int.natCast_add, Int.natCast_succ, Nat.zero_add, natCast_one, natCast_zero] <;> omega) | fail) only [go_sem] at h)) <;> (try (simp (maxSteps := 1000000) (disch := first | omega | (simp only [List.length_append, List.length_cons, List.length_nil, List.length_map, bitsOf_len, readB_len, Int.natCast_add, Int.natCast_succ, Nat.zero_add, natCast_one, natCast_zero] <;> omega) | fail) only [go_sem, h, hcl, hs, hg, and63, Nat.mul_one, Nat.zero_add])))))
    all_goals (try omega)
    refine ⟨i + 1, by omega, wk_by [0] ?_, by omega⟩
    (simp (maxSteps := 1000000) (disch := first | omega | (simp only [List.length_append, List.length_cons, List.length_nil, List.length_map, bitsOf_len, readB_len, Int.natCast_add, Int.natCast_succ, Nat.zero_add, natCast_one, natCast_zero] <;> omega) | fail) only [go_sem])
  · have e : hasF l i = hasF l 64 := by
      funext m
      unfold hasF
      by_cases h : i = 64
      · rw [h]
      · rw [List.take_of_length_le (by omega), List.take_of_length_le (by omega)]
    rw [e]
    (repeat' (first
    | ((first | with_reducible refine aw_seq ?_ | with_reducible refine aw_region (aops_run ?_) | (with_reducible refine aw_regionD (fun _ => .p) mixed ?_ (dops_run ?_); (· kernel_rfl)) | (with_reducible refine aw_regionD (fun _ => .r) mixed ?_ (dops_run ?_); (· kernel_rfl)) | with_reducible refine aw_condK ?_ | with_reducible refine aw_skip ?_ | with_reducible refine aw_ret ?_ | with_reducible refine aw_exit ?_ | with_reducible refine aw_label ?_ | with_reducible refine aw_block ?_ | with_reducible refine aw_scope ?_ | with_reducible refine And.intro ?_ ?_) <;> (try (simp (maxSteps := 1000000) (disch := first | omega | (simp only [List.length_append, List.length_cons, List.length_nil, List.length_map, bitsOf_len, readB_len, Int.natCast_add, Int.natCast_succ, Nat.zero_add, natCast_one, natCast_zero] <;> omega) | fail) only [go_sem])))
    | ((first | with_reducible refine wantK_split (fun h => ?_) (fun h => ?_) | with_reducible refine condK_split (fun h => ?_) (fun h => ?_) | with_reducible refine pickV_split (fun h => ?_) (fun h => ?_)) <;> (try (simp (maxSteps := 1000000) (disch := first | omega | (simp only [List.length_append, List.length_cons, List.length_nil, List.length_map, bitsOf_len, readB_len, Int.natCast_add, Int.natCast_succ, Nat.zero_add, natCast_one, natCast_zero] <;> omega) | fail) only [go_sem] at h)) <;> (try (simp (maxSteps := 1000000) (disch := first | omega | (simp only [List.length_append, List.length_cons, List.length_nil, List.length_map, bitsOf_len, readB_len, Int.natCast_add, Int.natCast_succ, Nat.zero_add, natCast_one, natCast_zero] <;> omega) | fail) only [go_sem, h])))))
    all_goals (try omega)
    all_goals
      refine aw_loop (α := Nat) (fun j => ⟨35, sl [(3, .mp 0 0), (5, .msl 1 0 (risF 0 j (hasF l 64)).length (risF 0 j (hasF l 64)).length), (6, .iv (.int .i64 j))], [.var 47 (boolC (hasF l 64)), .row true 3 1 ((risF 0 j (hasF l 64)).map (IV.int .i64))], 0⟩)
        (fun j => j ≤ 64) (fun j => 64 - j) 0 (wk_by [0, 1] ?_) (by omega) ?_
      · (simp (maxSteps := 1000000) (disch := first | omega | (simp only [List.length_append, List.length_cons, List.length_nil, List.length_map, bitsOf_len, readB_len, Int.natCast_add, Int.natCast_succ, Nat.zero_add, natCast_one, natCast_zero] <;> omega) | fail) only [go_sem])
        trivial
      rintro j hj
      have hrl := risF_len (hasF l 64) j 0
      have hsn := risF_snoc (hasF l 64) j 0
      rw [Nat.zero_add] at hsn
      by_cases hlt2 : j < 64
      · have hg := boolC_get (hasF l 64) hlt2
        have hcl := boolC_len (hasF l 64)
        generalize risF 0 j (hasF l 64) = R at *
        cases hb : hasF l 64 j with
        | true =>
          rw [hb] at hg
          rw [hb, if_pos rfl] at hsn
          (repeat' (first
    | ((first | with_reducible refine aw_seq ?_ | with_reducible refine aw_region (aops_run ?_) | (with_reducible refine aw_regionD (fun _ => .p) mixed ?_ (dops_run ?_); (· kernel_rfl)) | (with_reducible refine aw_regionD (fun _ => .r) mixed ?_ (dops_run ?_); (· kernel_rfl)) | with_reducible refine aw_condK ?_ | with_reducible refine aw_skip ?_ | with_reducible refine aw_ret ?_ | with_reducible refine aw_exit ?_ | with_reducible refine aw_label ?_ | with_reducible refine aw_block ?_ | with_reducible refine aw_scope ?_ | with_reducible refine And.intro ?_ ?_) <;> (try (simp (maxSteps := 1000000) (disch := first | omega | (simp only [List.length_append, List.length_cons, List.length_nil, List.length_map, bitsOf_len, readB_len, Int.natCast_add, Int.natCast_succ, Nat.zero_add, natCast_one, natCast_zero] <;> omega) | fail) only [go_sem, hg, hcl, Nat.mul_one, Nat.zero_add])))
    | ((first | with_reducible refine wantK_split (fun h => ?_) (fun h => ?_) | with_reducible refine condK_split (fun h => ?_) (fun h => ?_) | with_reducible refine pickV_split (fun h => ?_) (fun h => ?_)) <;> (try (simp (maxSteps := 1000000) (disch := first | omega | (simp only [List.length_append, List.length_cons, List.length_nil, List.length_map, bitsOf_len, readB_len, Int.natCast_add, Int.natCast_succ, Nat.zero_add, natCast_one, natCast_zero] <;> omega) | fail) only [go_sem] at h)) <;> (try (simp (maxSteps := 1000000) (disch := first | omega | (simp only [List.length_append, List.length_cons, List.length_nil, List.length_map, bitsOf_len, readB_len, Int.natCast_add, Int.natCast_succ, Nat.zero_add, natCast_one, natCast_zero] <;> omega) | fail) only [go_sem, h, hg, hcl, Nat.mul_one, Nat.zero_add])))))
          all_goals (try omega)
          refine ⟨j + 1, by omega, wk_by [0, 1] ?_, by omega⟩
          (simp (maxSteps := 1000000) (disch := first | omega | (simp only [List.length_append, List.length_cons, List.length_nil, List.length_map, bitsOf_len, readB_len, Int.natCast_add, Int.natCast_succ, Nat.zero_add, natCast_one, natCast_zero] <;> omega) | fail) only [go_sem, hsn, List.map_append])
        | false =>
          rw [hb] at hg
          rw [hb, if_neg (by decide), List.append_nil] at hsn
          (repeat' (first
    | ((first | with_reducible refine aw_seq ?_ | with_reducible refine aw_region (aops_run ?_) | (with_reducible refine aw_regionD (fun _ => .p) mixed ?_ (dops_run ?_); (· kernel_rfl)) | (with_reducible refine aw_regionD (fun _ => .r) mixed ?_ (dops_run ?_); (· kernel_rfl)) | with_reducible refine aw_condK ?_ | with_reducible refine aw_skip ?_ | with_reducible refine aw_ret ?_ | with_reducible refine aw_exit ?_ | with_reducible refine aw_label ?_ | with_reducible refine aw_block ?_ | with_reducible refine aw_scope ?_ | with_reducible refine And.intro ?_ ?_) <;> (try (simp (maxSteps := 1000000) (disch := first | omega | (simp only [List.length_append, List.length_cons, List.length_nil, List.length_map, bitsOf_len, readB_len, Int.natCast_add, Int.natCast_succ, Nat.zero_add, natCast_one, natCast_zero] <;> omega) | fail) only [go_sem, hg, hcl, Nat.mul_one, Nat.zero_add])))
    | ((first | with_reducible refine wantK_split (fun h => ?_) (fun h => ?_) | with_reducible refine condK_split (fun h => ?_) (fun h => ?_) | with_reducible refine pickV_split (fun h => ?_) (fun h => ?_)) <;> (try (simp (maxSteps := 1000000) (disch := first | omega | (simp only [List.length_append, List.length_cons, List.length_nil, List.length_map, bitsOf_len, readB_len, Int.natCast_add, Int.natCast_succ, Nat.zero_add, natCast_one, natCast_zero] <;> omega) | fail) only [go_sem] at h)) <;> (try (simp (maxSteps := 1000000) (disch := first | omega | (simp only [List.length_append, List.length_cons, List.length_nil, List.length_map, bitsOf_len, readB_len, Int.natCast_add, Int.natCast_succ, Nat.zero_add, natCast_one, natCast_zero] <;> omega) | fail) only [go_sem, h, hg, hcl, Nat.mul_one, Nat.zero_add])))))
          all_goals (try omega)
          refine ⟨j + 1, by omega, wk_by [0, 1] ?_, by omega⟩
          (simp (maxSteps := 1000000) (disch := first | omega | (simp only [List.length_append, List.length_cons, List.length_nil, List.length_map, bitsOf_len, readB_len, Int.natCast_add, Int.natCast_succ, Nat.zero_add, natCast_one, natCast_zero] <;> omega) | fail) only [go_sem, hsn])
      · have : j = 64 := by omega
        subst this
        generalize risF 0 64 (hasF l 64) = R at *
        (repeat' (first
    | ((first | with_reducible refine aw_seq ?_ | with_reducible refine aw_region (aops_run ?_) | (with_reducible refine aw_regionD (fun _ => .p) mixed ?_ (dops_run ?_); (· kernel_rfl)) | (with_reducible refine aw_regionD (fun _ => .r) mixed ?_ (dops_run ?_); (· kernel_rfl)) | with_reducible refine aw_condK ?_ | with_reducible refine aw_skip ?_ | with_reducible refine aw_ret ?_ | with_reducible refine aw_exit ?_ | with_reducible refine aw_label ?_ | with_reducible refine aw_block ?_ | with_reducible refine aw_scope ?_ | with_reducible refine And.intro ?_ ?_) <;> (try (simp (maxSteps := 1000000) (disch := first | omega | (simp only [List.length_append, List.length_cons, List.length_nil, List.length_map, bitsOf_len, readB_len, Int.natCast_add, Int.natCast_succ, Nat.zero_add, natCast_one, natCast_zero] <;> omega) | fail) only [go_sem])))
    | ((first | with_reducible refine wantK_split (fun h => ?_) (fun h => ?_) | with_reducible refine condK_split (fun h => ?_) (fun h => ?_) | with_reducible refine pickV_split (fun h => ?_) (fun h => ?_)) <;> (try (simp (maxSteps := 1000000) (disch := first | omega | (simp only [List.length_append, List.length_cons, List.length_nil, List.length_map, bitsOf_len, readB_len, Int.natCast_add, Int.natCast_succ, Nat.zero_add, natCast_one, natCast_zero] <;> omega) | fail) only [go_sem] at h)) <;> (try (simp (maxSteps := 1000000) (disch := first | omega | (simp only [List.length_append, List.length_cons, List.length_nil, List.length_map, bitsOf_len, readB_len, Int.natCast_add, Int.natCast_succ, Nat.zero_add, natCast_one, natCast_zero] <;> omega) | fail) only [go_sem, h])))))
        all_goals (try omega)
end Go.Proofs.Ytebegdnebjjnmaa.AM
