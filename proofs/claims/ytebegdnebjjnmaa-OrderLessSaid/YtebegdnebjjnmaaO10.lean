
/- Chapter 6: the document's Has and All; permutations. No condition. -/
import Derived.Test.YtebegdnebjjnmaaO3
set_option linter.unusedVariables false
set_option linter.unusedSimpArgs false
set_option maxRecDepth 20000
namespace Go.Proofs.Ytebegdnebjjnmaa.AM
open Go Go.RowKit

theorem Has_spec (l : List Int) (n : Int) (hl : l.length ≤ 100000000) : PCalls Try.prog 22 [inl l, .int .i64 n] (.bool (decide (n ∈ l))) := by
  refine PCalls.of_aw Try.func22 rfl (by unfold Callable; kernel_rfl) (by kernel_rfl) (by simp [Try.ntmps22]) ?_; rw [Try.ntmps22, Try.results22]; (simp (maxSteps := 1000000) (disch := first | omega | (simp only [List.length_append, List.length_cons, List.length_nil, List.length_map, bitsOf_len, readB_len, Int.natCast_add, Int.natCast_succ, Nat.zero_add, natCast_one, natCast_zero] <;> omega) | fail) only [go_sem])
  (repeat' (first
    | ((first | with_reducible refine aw_seq ?_ | with_reducible refine aw_region (aops_run ?_) | (with_reducible refine aw_regionD (fun _ => .p) mixed ?_ (dops_run ?_); (· kernel_rfl)) | (with_reducible refine aw_regionD (fun _ => .r) mixed ?_ (dops_run ?_); (· kernel_rfl)) | with_reducible refine aw_condK ?_ | with_reducible refine aw_skip ?_ | with_reducible refine aw_ret ?_ | with_reducible refine aw_exit ?_ | with_reducible refine aw_label ?_ | with_reducible refine aw_block ?_ | with_reducible refine aw_scope ?_ | with_reducible refine And.intro ?_ ?_) <;> (try (simp (maxSteps := 1000000) (disch := first | omega | (simp only [List.length_append, List.length_cons, List.length_nil, List.length_map, bitsOf_len, readB_len, Int.natCast_add, Int.natCast_succ, Nat.zero_add, natCast_one, natCast_zero] <;> omega) | fail) only [go_sem])))
    | ((first | with_reducible refine wantK_split (fun h => ?_) (fun h => ?_) | with_reducible refine condK_split (fun h => ?_) (fun h => ?_) | with_reducible refine pickV_split (fun h => ?_) (fun h => ?_)) <;> (try (simp (maxSteps := 1000000) (disch := first | omega | (simp only [List.length_append, List.length_cons, List.length_nil, List.length_map, bitsOf_len, readB_len, Int.natCast_add, Int.natCast_succ, Nat.zero_add, natCast_one, natCast_zero] <;> omega) | fail) only [go_sem] at h)) <;> (try (simp (maxSteps := 1000000) (disch := first | omega | (simp only [List.length_append, List.length_cons, List.length_nil, List.length_map, bitsOf_len, readB_len, Int.natCast_add, Int.natCast_succ, Nat.zero_add, natCast_one, natCast_zero] <;> omega) | fail) only [go_sem, h])))))
  refine aw_loop (α := Nat) (fun j => ⟨18, sl [(0, .iv (inl l)), (1, .iv (.int .i64 n)), (5, .iv (.int .i64 j))], [], 0⟩)
    (fun j => j ≤ l.length ∧ ∀ k, k < j → l.getD k 0 ≠ n) (fun j => l.length - j) 0 (wk_by [] ?_) ⟨by omega, by omega⟩ ?_
  · (simp (maxSteps := 1000000) (disch := first | omega | (simp only [List.length_append, List.length_cons, List.length_nil, List.length_map, bitsOf_len, readB_len, Int.natCast_add, Int.natCast_succ, Nat.zero_add, natCast_one, natCast_zero] <;> omega) | fail) only [go_sem])
  rintro j ⟨hj, hk⟩
  (repeat' (first
    | ((first | with_reducible refine aw_seq ?_ | with_reducible refine aw_region (aops_run ?_) | (with_reducible refine aw_regionD (fun _ => .p) mixed ?_ (dops_run ?_); (· kernel_rfl)) | (with_reducible refine aw_regionD (fun _ => .r) mixed ?_ (dops_run ?_); (· kernel_rfl)) | with_reducible refine aw_condK ?_ | with_reducible refine aw_skip ?_ | with_reducible refine aw_ret ?_ | with_reducible refine aw_exit ?_ | with_reducible refine aw_label ?_ | with_reducible refine aw_block ?_ | with_reducible refine aw_scope ?_ | with_reducible refine And.intro ?_ ?_) <;> (try (simp (maxSteps := 1000000) (disch := first | omega | (simp only [List.length_append, List.length_cons, List.length_nil, List.length_map, bitsOf_len, readB_len, Int.natCast_add, Int.natCast_succ, Nat.zero_add, natCast_one, natCast_zero] <;> omega) | fail) only [go_sem])))
    | ((first | with_reducible refine wantK_split (fun h => ?_) (fun h => ?_) | with_reducible refine condK_split (fun h => ?_) (fun h => ?_) | with_reducible refine pickV_split (fun h => ?_) (fun h => ?_)) <;> (try (simp (maxSteps := 1000000) (disch := first | omega | (simp only [List.length_append, List.length_cons, List.length_nil, List.length_map, bitsOf_len, readB_len, Int.natCast_add, Int.natCast_succ, Nat.zero_add, natCast_one, natCast_zero] <;> omega) | fail) only [go_sem] at h)) <;> (try (simp (maxSteps := 1000000) (disch := first | omega | (simp only [List.length_append, List.length_cons, List.length_nil, List.length_map, bitsOf_len, readB_len, Int.natCast_add, Int.natCast_succ, Nat.zero_add, natCast_one, natCast_zero] <;> omega) | fail) only [go_sem, h])))))
  all_goals (try omega)
  · have : n ∈ l := by rw [← h]; exact getD_mem (by omega)
    simp [this]
  · refine ⟨j + 1, ⟨by omega, fun k hkj => ?_⟩, wk_by [] ?_, by omega⟩
    · by_cases e : k = j
      · subst e; assumption
      · exact hk k (by omega)
    · (simp (maxSteps := 1000000) (disch := first | omega | (simp only [List.length_append, List.length_cons, List.length_nil, List.length_map, bitsOf_len, readB_len, Int.natCast_add, Int.natCast_succ, Nat.zero_add, natCast_one, natCast_zero] <;> omega) | fail) only [go_sem])
  · have : n ∉ l := by
      intro hm
      obtain ⟨k, hkl, e⟩ := List.mem_iff_getElem.1 hm
      exact hk k (by omega) (by simp [List.getD, List.getElem?_eq_getElem hkl, e])
    simp [this]
/-- Is each number below the length there? -/
def allB (p : List Int) : Bool := (List.range p.length).all fun (i : Nat) => decide ((i : Int) ∈ p)
theorem allB_no {p : List Int} {i : Nat} (h : i < p.length) (hn : (i : Int) ∉ p) : allB p = false := by
  cases hb : allB p with
  | false => rfl
  | true =>
    unfold allB at hb
    rw [List.all_eq_true] at hb
    exact absurd (of_decide_eq_true (hb i (List.mem_range.2 h))) hn
theorem allB_yes {p : List Int} (h : ∀ i : Nat, i < p.length → (i : Int) ∈ p) : allB p = true := by
  unfold allB
  rw [List.all_eq_true]
  exact fun i hi => decide_eq_true (h i (List.mem_range.1 hi))
theorem All_spec (p : List Int) (hl : p.length ≤ 100000000) : PCalls Try.prog 20 [inl p] (.bool (allB p)) := by
  refine PCalls.of_aw Try.func20 rfl (by unfold Callable; kernel_rfl) (by kernel_rfl) (by simp [Try.ntmps20]) ?_; rw [Try.ntmps20, Try.results20]; (simp (maxSteps := 1000000) (disch := first | omega | (simp only [List.length_append, List.length_cons, List.length_nil, List.length_map, bitsOf_len, readB_len, Int.natCast_add, Int.natCast_succ, Nat.zero_add, natCast_one, natCast_zero] <;> omega) | fail) only [go_sem])
  (repeat' (first
    | ((first | with_reducible refine aw_seq ?_ | with_reducible refine aw_region (aops_run ?_) | (with_reducible refine aw_regionD (fun _ => .p) mixed ?_ (dops_run ?_); (· kernel_rfl)) | (with_reducible refine aw_regionD (fun _ => .r) mixed ?_ (dops_run ?_); (· kernel_rfl)) | with_reducible refine aw_condK ?_ | with_reducible refine aw_skip ?_ | with_reducible refine aw_ret ?_ | with_reducible refine aw_exit ?_ | with_reducible refine aw_label ?_ | with_reducible refine aw_block ?_ | with_reducible refine aw_scope ?_ | with_reducible refine And.intro ?_ ?_) <;> (try (simp (maxSteps := 1000000) (disch := first | omega | (simp only [List.length_append, List.length_cons, List.length_nil, List.length_map, bitsOf_len, readB_len, Int.natCast_add, Int.natCast_succ, Nat.zero_add, natCast_one, natCast_zero] <;> omega) | fail) only [go_sem])))
    | ((first | with_reducible refine wantK_split (fun h => ?_) (fun h => ?_) | with_reducible refine condK_split (fun h => ?_) (fun h => ?_) | with_reducible refine pickV_split (fun h => ?_) (fun h => ?_)) <;> (try (simp (maxSteps := 1000000) (disch := first | omega | (simp only [List.length_append, List.length_cons, List.length_nil, List.length_map, bitsOf_len, readB_len, Int.natCast_add, Int.natCast_succ, Nat.zero_add, natCast_one, natCast_zero] <;> omega) | fail) only [go_sem] at h)) <;> (try (simp (maxSteps := 1000000) (disch := first | omega | (simp only [List.length_append, List.length_cons, List.length_nil, List.length_map, bitsOf_len, readB_len, Int.natCast_add, Int.natCast_succ, Nat.zero_add, natCast_one, natCast_zero] <;> omega) | fail) only [go_sem, h])))))
  refine aw_loop (α := Nat) (fun j => ⟨16, sl [(0, .iv (inl p)), (3, .iv (.int .i64 j))], [], 0⟩)
    (fun j => j ≤ p.length ∧ ∀ k : Nat, k < j → (k : Int) ∈ p) (fun j => p.length - j) 0 (wk_by [] ?_) ⟨by omega, by omega⟩ ?_
  · (simp (maxSteps := 1000000) (disch := first | omega | (simp only [List.length_append, List.length_cons, List.length_nil, List.length_map, bitsOf_len, readB_len, Int.natCast_add, Int.natCast_succ, Nat.zero_add, natCast_one, natCast_zero] <;> omega) | fail) only [go_sem])
  rintro j ⟨hj, hk⟩
  (repeat' (first
    | ((first | with_reducible refine aw_seq ?_ | with_reducible refine aw_region (aops_run ?_) | (with_reducible refine aw_regionD (fun _ => .p) mixed ?_ (dops_run ?_); (· kernel_rfl)) | (with_reducible refine aw_regionD (fun _ => .r) mixed ?_ (dops_run ?_); (· kernel_rfl)) | with_reducible refine aw_condK ?_ | with_reducible refine aw_skip ?_ | with_reducible refine aw_ret ?_ | with_reducible refine aw_exit ?_ | with_reducible refine aw_label ?_ | with_reducible refine aw_block ?_ | with_reducible refine aw_scope ?_ | with_reducible refine And.intro ?_ ?_) <;> (try (simp (maxSteps := 1000000) (disch := first | omega | (simp only [List.length_append, List.length_cons, List.length_nil, List.length_map, bitsOf_len, readB_len, Int.natCast_add, Int.natCast_succ, Nat.zero_add, natCast_one, natCast_zero] <;> omega) | fail) only [go_sem])))
    | ((first | with_reducible refine wantK_split (fun h => ?_) (fun h => ?_) | with_reducible refine condK_split (fun h => ?_) (fun h => ?_) | with_reducible refine pickV_split (fun h => ?_) (fun h => ?_)) <;> (try (simp (maxSteps := 1000000) (disch := first | omega | (simp only [List.length_append, List.length_cons, List.length_nil, List.length_map, bitsOf_len, readB_len, Int.natCast_add, Int.natCast_succ, Nat.zero_add, natCast_one, natCast_zero] <;> omega) | fail) only [go_sem] at h)) <;> (try (simp (maxSteps := 1000000) (disch := first | omega | (simp only [List.length_append, List.length_cons, List.length_nil, List.length_map, bitsOf_len, readB_len, Int.natCast_add, Int.natCast_succ, Nat.zero_add, natCast_one, natCast_zero] <;> omega) | fail) only [go_sem, h])))))
  · ((first | with_reducible apply left_callf | with_reducible apply leftD_callf); (· with_reducible rfl); (· (simp (maxSteps := 1000000) (disch := first | omega | (simp only [List.length_append, List.length_cons, List.length_nil, List.length_map, bitsOf_len, readB_len, Int.natCast_add, Int.natCast_succ, Nat.zero_add, natCast_one, natCast_zero] <;> omega) | fail) only [go_sem]) <;> rfl); (· exact Has_spec p j hl); try (simp (maxSteps := 1000000) (disch := first | omega | (simp only [List.length_append, List.length_cons, List.length_nil, List.length_map, bitsOf_len, readB_len, Int.natCast_add, Int.natCast_succ, Nat.zero_add, natCast_one, natCast_zero] <;> omega) | fail) only [go_sem]))
    (repeat' (first
    | ((first | with_reducible refine aw_seq ?_ | with_reducible refine aw_region (aops_run ?_) | (with_reducible refine aw_regionD (fun _ => .p) mixed ?_ (dops_run ?_); (· kernel_rfl)) | (with_reducible refine aw_regionD (fun _ => .r) mixed ?_ (dops_run ?_); (· kernel_rfl)) | with_reducible refine aw_condK ?_ | with_reducible refine aw_skip ?_ | with_reducible refine aw_ret ?_ | with_reducible refine aw_exit ?_ | with_reducible refine aw_label ?_ | with_reducible refine aw_block ?_ | with_reducible refine aw_scope ?_ | with_reducible refine And.intro ?_ ?_) <;> (try (simp (maxSteps := 1000000) (disch := first | omega | (simp only [List.length_append, List.length_cons, List.length_nil, List.length_map, bitsOf_len, readB_len, Int.natCast_add, Int.natCast_succ, Nat.zero_add, natCast_one, natCast_zero] <;> omega) | fail) only [go_sem])))
    | ((first | with_reducible refine wantK_split (fun h => ?_) (fun h => ?_) | with_reducible refine condK_split (fun h => ?_) (fun h => ?_) | with_reducible refine pickV_split (fun h => ?_) (fun h => ?_)) <;> (try (simp (maxSteps := 1000000) (disch := first | omega | (simp only [List.length_append, List.length_cons, List.length_nil, List.length_map, bitsOf_len, readB_len, Int.natCast_add, Int.natCast_succ, Nat.zero_add, natCast_one, natCast_zero] <;> omega) | fail) only [go_sem] at h)) <;> (try (simp (maxSteps := 1000000) (disch := first | omega | (simp only [List.length_append, List.length_cons, List.length_nil, List.length_map, bitsOf_len, readB_len, Int.natCast_add, Int.natCast_succ, Nat.zero_add, natCast_one, natCast_zero] <;> omega) | fail) only [go_sem, h])))))
    · rw [allB_no (by omega) h]
    · refine ⟨j + 1, ⟨by omega, fun k hkj => ?_⟩, wk_by [] ?_, by omega⟩
      · by_cases e : k = j
        · subst e; assumption
        · exact hk k (by omega)
      · (simp (maxSteps := 1000000) (disch := first | omega | (simp only [List.length_append, List.length_cons, List.length_nil, List.length_map, bitsOf_len, readB_len, Int.natCast_add, Int.natCast_succ, Nat.zero_add, natCast_one, natCast_zero] <;> omega) | fail) only [go_sem])
  · rw [allB_yes (fun i hi => hk i (by omega))]
theorem pigeon : ∀ (l1 l2 : List Int), l1.Nodup → (∀ x ∈ l1, x ∈ l2) → l2.length ≤ l1.length → l1.Perm l2
  | [], l2, _, _, h => by
    have : l2 = [] := List.eq_nil_of_length_eq_zero (by simpa using h)
    subst this; exact List.Perm.refl _
  | a :: l1, l2, hn, hs, h => by
    have ha := hs a (by simp)
    have hp := List.perm_cons_erase ha
    rw [List.nodup_cons] at hn
    refine (List.Perm.cons a (pigeon l1 (l2.erase a) hn.2 (fun x hx => ?_) ?_)).trans hp.symm
    · have hne : x ≠ a := fun e => hn.1 (e ▸ hx)
      exact (List.mem_erase_of_ne hne).2 (hs x (List.mem_cons_of_mem _ hx))
    · rw [List.length_erase_of_mem ha]
      simp only [List.length_cons] at h; omega
theorem idL_nodup (n : Nat) : (idL n).Nodup := by
  unfold idL
  rw [List.Nodup, List.pairwise_map]
  exact List.nodup_range.imp (fun h e => h (by omega))
theorem mem_idL {n : Nat} {x : Int} : x ∈ idL n ↔ ∃ k : Nat, k < n ∧ x = k := by
  unfold idL
  rw [List.mem_map]
  exact ⟨fun ⟨k, h1, h2⟩ => ⟨k, List.mem_range.1 h1, h2.symm⟩, fun ⟨k, h1, h2⟩ => ⟨k, List.mem_range.2 h1, h2.symm⟩⟩
theorem allB_perm {p : List Int} (h : allB p = true) : p.Perm (idL p.length) := by
  unfold allB at h
  rw [List.all_eq_true] at h
  refine (pigeon _ _ (idL_nodup _) (fun x hx => ?_) (by simp [idL])).symm
  obtain ⟨k, hk, rfl⟩ := mem_idL.1 hx
  exact of_decide_eq_true (h k (List.mem_range.2 hk))
theorem perm_allB {p : List Int} (h : p.Perm (idL p.length)) : allB p = true :=
  allB_yes (fun i hi => h.mem_iff.2 (mem_idL.2 ⟨i, hi, rfl⟩))
theorem stabG_len (K : Nat → Nat) (n : Nat) : (stabG K n).length = n := by simp [stabG]
theorem stabG_all (K : Nat → Nat) (n : Nat) : allB (stabG K n) = true := by
  refine allB_yes (fun i hi => ?_)
  rw [stabG_len] at hi
  rw [← stabG_at K hi]
  exact getD_mem (by rw [stabG_len]; exact posK_lt K hi)
theorem posK_before {K : Nat → Nat} {n a b : Nat} (ha : a < n) (hb : b < n) (h : K a < K b ∨ K a = K b ∧ a < b) : posK K n a < posK K n b := by
  unfold posK
  rcases h with h | ⟨h, hab⟩
  · have h2 := cL_next K (K a) n
    have h3 := cN_mono K (K a) (show a + 1 ≤ n by omega)
    simp only [cN, if_true] at h3
    have h4 := cL_mono K n (show K a + 1 ≤ K b by omega)
    omega
  · have h1 := cN_mono K (K a) (show a + 1 ≤ b by omega)
    simp only [cN, if_true] at h1
    rw [h] at h1 ⊢; omega
theorem nodup_inj {l : List Int} (h : l.Nodup) {i j : Nat} (hi : i < l.length) (hj : j < l.length) (e : l.getD i 0 = l.getD j 0) : i = j := by
  simp only [List.getD, List.getElem?_eq_getElem hi, List.getElem?_eq_getElem hj, Option.getD_some] at e
  have hp := List.pairwise_iff_getElem.1 h
  rcases Nat.lt_trichotomy i j with g | g | g
  · exact absurd e (hp i j hi hj g)
  · exact g
  · exact absurd e.symm (hp j i hj hi g)
/-- Who stands at a place. -/
theorem stabG_who (K : Nat → Nat) {n p : Nat} (h : p < n) : ∃ q : Nat, (stabG K n).getD p 0 = (q : Int) ∧ q < n ∧ posK K n q = p := by
  have hp := allB_perm (stabG_all K n)
  rw [stabG_len] at hp
  have hm : (stabG K n).getD p 0 ∈ idL n := hp.mem_iff.1 (getD_mem (by rw [stabG_len]; exact h))
  obtain ⟨q, hq, e⟩ := mem_idL.1 hm
  refine ⟨q, e, hq, ?_⟩
  have h1 := stabG_at K hq
  have hnd : (stabG K n).Nodup := hp.nodup_iff.2 (idL_nodup n)
  have hlt := posK_lt K hq
  have hl := stabG_len K n
  rw [← e] at h1
  exact nodup_inj hnd (by omega) (by omega) h1
theorem stabG_next (K : Nat → Nat) {n a b i : Nat} (hi : i + 1 < n) (ha : (stabG K n).getD i 0 = (a : Int)) (hb : (stabG K n).getD (i + 1) 0 = (b : Int)) : a < n ∧ b < n ∧ (K a < K b ∨ K a = K b ∧ a < b) := by
  obtain ⟨a', h1, h2, h3⟩ := stabG_who K (show i < n by omega)
  obtain ⟨b', h4, h5, h6⟩ := stabG_who K hi
  have e1 : a = a' := by omega
  have e2 : b = b' := by omega
  subst e1 e2
  refine ⟨h2, h5, ?_⟩
  rcases Nat.lt_trichotomy (K a) (K b) with h | h | h
  · exact .inl h
  · refine .inr ⟨h, ?_⟩
    rcases Nat.lt_trichotomy a b with g | g | g
    · exact g
    · subst g; omega
    · have := posK_before h5 h2 (.inr ⟨h.symm, g⟩); omega
  · have := posK_before h5 h2 (.inl h); omega
/-- Numbers from 0 to 15. -/
def lowK (l : List Int) : List Int := (l.take 40).map (· % 16)
theorem lowK_len (l : List Int) : (lowK l).length ≤ 40 ∧ (lowK l).length ≤ l.length := by
  unfold lowK; rw [List.length_map, List.length_take]; omega
theorem lowK_at (l : List Int) {i : Nat} (h : i < (lowK l).length) : (lowK l).getD i 0 = l.getD i 0 % 16 ∧ 0 ≤ (lowK l).getD i 0 ∧ (lowK l).getD i 0 < 16 := by
  have hl := lowK_len l
  have e : (lowK l).getD i 0 = l.getD i 0 % 16 := by
    unfold lowK
    rw [getD_map_at (f := (· % 16)) (by rw [List.length_take]; omega)]
    simp only [List.getD, List.getElem?_take, if_pos (show i < 40 by omega)]
  rw [e]; omega
theorem lowK_mem (l : List Int) {n : Int} (h : n ∈ lowK l) : 0 ≤ n ∧ n < 16 := by
  unfold lowK at h
  obtain ⟨z, hz, rfl⟩ := List.mem_map.1 h
  omega
theorem lowK_small (l : List Int) : ∀ n ∈ lowK l, small n := fun n hn => by
  have := lowK_mem l hn; exact ⟨by omega, by omega⟩
theorem lowK_ok {k : List Int} (h : ∀ n ∈ k, 0 ≤ n ∧ n < 16) : stabOk k 16 = true := by
  unfold stabOk
  rw [Bool.and_eq_true, decide_eq_true_eq, Bool.not_eq_true', List.any_eq_false]
  refine ⟨by omega, fun n hn => ?_⟩
  have := h n hn
  unfold offK
  rw [Bool.or_eq_true, decide_eq_true_eq, decide_eq_true_eq, not_or]
  omega
theorem and15 (z : Int) : bitI .and .i64 z 15 = z % 16 := and_maskS z 16 4 (by decide) rfl

end Go.Proofs.Ytebegdnebjjnmaa.AM
