
/- Chapter 7: the document's Find; what Find finds in the order of suffixes. No condition but lengths that fit. -/
import Derived.Test.YtejhomoafhnipaaS18
import Derived.Test.YtejhomoafhnipaaS19
set_option linter.unusedVariables false
set_option linter.unusedSimpArgs false
set_option maxRecDepth 20000
namespace Go.Proofs.Ytejhomoafhnipaa.AM
open Go Go.RowKit

def cntF (f : Nat → Bool) : Nat → Nat
  | 0 => 0
  | k + 1 => cntF f k + (if f k = true then 1 else 0)
theorem cntF_le (f : Nat → Bool) : ∀ k, cntF f k ≤ k
  | 0 => Nat.le_refl _
  | k + 1 => by have := cntF_le f k; rw [cntF]; split <;> omega
theorem cntF_P (f : Nat → Bool) : ∀ k, cntF f k = (List.range k).countP f
  | 0 => rfl
  | k + 1 => by rw [cntF, cntF_P f k, List.range_succ, List.countP_append, List.countP_singleton]
theorem cntF_or {f g h : Nat → Bool} : ∀ {k : Nat}, (∀ i, i < k → (h i = true ↔ f i = true ∨ g i = true) ∧ ¬ (f i = true ∧ g i = true)) → cntF h k = cntF f k + cntF g k
  | 0, _ => rfl
  | k + 1, hh => by
    rw [cntF, cntF, cntF, cntF_or (fun i hi => hh i (by omega))]
    obtain ⟨h1, h2⟩ := hh k (by omega)
    by_cases a : f k = true
    · rw [if_pos a, if_pos (h1.2 (.inl a)), if_neg (fun b => h2 ⟨a, b⟩)]; omega
    · by_cases b : g k = true
      · rw [if_neg a, if_pos b, if_pos (h1.2 (.inr b))]; omega
      · rw [if_neg a, if_neg b, if_neg (fun c => (h1.1 c).elim a b)]; omega
/-- What holds on from the first place up to some place holds as often. -/
theorem cntF_down {f : Nat → Bool} : ∀ {n : Nat}, (∀ i j, i < j → j < n → f j = true → f i = true) → ∀ j, j < n → (f j = true ↔ j < cntF f n)
  | 0, _, j, h => by omega
  | n + 1, h, j, hj => by
    rw [cntF]
    have hle := cntF_le f n
    have ih := cntF_down (f := f) (n := n) (fun i j h1 h2 => h i j h1 (by omega))
    by_cases hn : f n = true
    · rw [if_pos hn]
      have hall : ∀ i, i < n → f i = true := fun i hi => h i n hi (by omega) hn
      have : cntF f n = n := by
        rcases Nat.lt_or_ge (cntF f n) n with g | g
        · exact absurd ((ih _ g).1 (hall _ g)) (Nat.lt_irrefl _)
        · omega
      by_cases e : j = n
      · subst e; exact ⟨fun _ => by omega, fun _ => hn⟩
      · exact ⟨fun _ => by omega, fun _ => hall j (by omega)⟩
    · rw [if_neg hn]
      by_cases e : j = n
      · subst e; exact ⟨fun g => absurd g hn, fun g => by omega⟩
      · rw [ih j (by omega)]; exact Iff.rfl
theorem cntF_sa (l : List Int) (f : Nat → Bool) : cntF (fun j => f ((saL l).getD j 0).toNat) l.length = cntF f l.length := by
  have h1 : cntF (fun j => f ((saL l).getD j 0).toNat) l.length = (saL l).countP (fun x => f x.toNat) := by
    rw [cntF_P]
    have hl := saL_len l
    have : saL l = (List.range l.length).map (fun j => (saL l).getD j 0) := by
      apply List.ext_getElem (by simp [hl])
      intro i h1 h2
      simp [List.getD, List.getElem?_eq_getElem h1]
    rw [show (saL l).countP (fun x => f x.toNat) = ((List.range l.length).map (fun j => (saL l).getD j 0)).countP (fun x => f x.toNat) from by rw [← this], List.countP_map]
    rfl
  have hp := allB_perm (saL_all l)
  rw [saL_len] at hp
  rw [h1, hp.countP_eq, cntF_P]
  unfold idL
  rw [List.countP_map]
  refine List.countP_congr (fun x _ => ?_)
  simp
def wlP (l p : List Int) (i : Nat) : Bool := wl (l.drop i) p
def eqP (l p : List Int) (i : Nat) : Bool := decide (lcp (l.drop i) p = p.length)
theorem RefFind7_spec (l p : List Int) (hl : l.length ≤ 1000000) (hp : p.length ≤ 1000000) : PCalls Try.prog 23 [inl l, inl p] (.tup [.int .i64 (cntF (wlP l p) l.length), .int .i64 (cntF (wlP l p) l.length + cntF (eqP l p) l.length : Nat)]) := by
  refine PCalls.of_aw Try.func23 rfl (by unfold Callable; kernel_rfl) (by kernel_rfl) (by simp [Try.ntmps23]) ?_; rw [Try.ntmps23, Try.results23]; (simp (maxSteps := 1000000) (disch := first | exact dq | fail) only [go_sem])
  (repeat' (first
    | ((first | with_reducible (first | refine aw_seq ?_ | refine aw_region (aops_run ?_)) | (with_reducible refine aw_regionD (fun _ => .p) mixed ?_ (dops_run ?_); (· kernel_rfl)) | (with_reducible refine aw_regionD (fun _ => .r) mixed ?_ (dops_run ?_); (· kernel_rfl)) | with_reducible (first | refine aw_condK ?_ | refine aw_skip ?_ | refine aw_ret ?_ | refine aw_exit ?_ | refine aw_label ?_ | refine aw_block ?_ | refine aw_scope ?_ | refine And.intro ?_ ?_)) <;> (try (simp (maxSteps := 1000000) (disch := first | exact dq | fail) only [go_sem])))
    | (with_reducible (first | refine wantK_split (fun h => ?_) (fun h => ?_) | refine condK_split (fun h => ?_) (fun h => ?_) | refine pickV_split (fun h => ?_) (fun h => ?_)) <;> (try (simp (maxSteps := 1000000) (disch := first | exact dq | fail) only [go_sem] at h)) <;> (try (simp (maxSteps := 1000000) (disch := first | exact dq | fail) only [go_sem, h])))))
  refine aw_loop (α := Nat) (fun i => ⟨38, sl [(0, .iv (inl l)), (1, .iv (inl p)), (6, .iv (.int .i64 (cntF (wlP l p) i))), (7, .iv (.int .i64 (cntF (eqP l p) i))), (8, .iv (.int .i64 i))], [], 0⟩)
    (fun i => i ≤ l.length) (fun i => l.length - i) 0 (wk_by [] ?_) (by omega) ?_
  · (simp (maxSteps := 1000000) (disch := first | exact dq | fail) only [go_sem])
    exact ⟨rfl, rfl⟩
  rintro i hi
  have b1 := cntF_le (wlP l p) i
  have b2 := cntF_le (eqP l p) i
  by_cases h : i < l.length
  · have hL := RefLess7_spec (l.drop i) p (by rw [List.length_drop]; omega) hp
    have hA := Alike_spec (l.drop i) p (by rw [List.length_drop]; omega) hp
    rw [inl_drop] at hL hA
    have s1 : cntF (wlP l p) (i + 1) = cntF (wlP l p) i + (if wl (l.drop i) p = true then 1 else 0) := rfl
    have s2 : cntF (eqP l p) (i + 1) = cntF (eqP l p) i + (if lcp (l.drop i) p = p.length then 1 else 0) := by rw [cntF]; simp [eqP]
    have hc : (i : Int) < l.length := by omega
    generalize cntF (wlP l p) i = a at *
    generalize cntF (eqP l p) i = b at *
    generalize wl (l.drop i) p = B at *
    generalize lcp (l.drop i) p = L at *
    (repeat' (first
    | ((first | with_reducible (first | refine aw_seq ?_ | refine aw_region (aops_run ?_)) | (with_reducible refine aw_regionD (fun _ => .p) mixed ?_ (dops_run ?_); (· kernel_rfl)) | (with_reducible refine aw_regionD (fun _ => .r) mixed ?_ (dops_run ?_); (· kernel_rfl)) | with_reducible (first | refine aw_condK ?_ | refine aw_skip ?_ | refine aw_ret ?_ | refine aw_exit ?_ | refine aw_label ?_ | refine aw_block ?_ | refine aw_scope ?_ | refine And.intro ?_ ?_)) <;> (try (simp (maxSteps := 1000000) (disch := first | exact dq | fail) only [go_sem, hc, decide_true])))
    | (with_reducible (first | refine wantK_split (fun h => ?_) (fun h => ?_) | refine condK_split (fun h => ?_) (fun h => ?_) | refine pickV_split (fun h => ?_) (fun h => ?_)) <;> (try (simp (maxSteps := 1000000) (disch := first | exact dq | fail) only [go_sem] at h)) <;> (try (simp (maxSteps := 1000000) (disch := first | exact dq | fail) only [go_sem, h, hc, decide_true])))))
    all_goals (try omega)
    ((first | with_reducible apply left_callf | with_reducible apply leftD_callf | with_reducible apply leftF_callf); (· with_reducible rfl); (· (simp (maxSteps := 1000000) (disch := first | exact dq | fail) only [go_sem]) <;> rfl); (· exact hL); try (simp (maxSteps := 1000000) (disch := first | exact dq | fail) only [go_sem]))
    refine aw_cut ⟨38, sl [(0, .iv (inl l)), (1, .iv (inl p)), (6, .iv (.int .i64 (cntF (wlP l p) (i + 1)))), (7, .iv (.int .i64 b)), (8, .iv (.int .i64 i))], [], 0⟩ ?_ ?_
    · rw [s1]
      cases B
      · (repeat' (first
    | ((first | with_reducible (first | refine aw_seq ?_ | refine aw_region (aops_run ?_)) | (with_reducible refine aw_regionD (fun _ => .p) mixed ?_ (dops_run ?_); (· kernel_rfl)) | (with_reducible refine aw_regionD (fun _ => .r) mixed ?_ (dops_run ?_); (· kernel_rfl)) | with_reducible (first | refine aw_condK ?_ | refine aw_skip ?_ | refine aw_ret ?_ | refine aw_exit ?_ | refine aw_label ?_ | refine aw_block ?_ | refine aw_scope ?_ | refine And.intro ?_ ?_)) <;> (try (simp (maxSteps := 1000000) (disch := first | exact dq | fail) only [go_sem])))
    | (with_reducible (first | refine wantK_split (fun h => ?_) (fun h => ?_) | refine condK_split (fun h => ?_) (fun h => ?_) | refine pickV_split (fun h => ?_) (fun h => ?_)) <;> (try (simp (maxSteps := 1000000) (disch := first | exact dq | fail) only [go_sem] at h)) <;> (try (simp (maxSteps := 1000000) (disch := first | exact dq | fail) only [go_sem, h])))))
        refine wk_by [] ?_; (simp (maxSteps := 1000000) (disch := first | exact dq | fail) only [go_sem])
      · (repeat' (first
    | ((first | with_reducible (first | refine aw_seq ?_ | refine aw_region (aops_run ?_)) | (with_reducible refine aw_regionD (fun _ => .p) mixed ?_ (dops_run ?_); (· kernel_rfl)) | (with_reducible refine aw_regionD (fun _ => .r) mixed ?_ (dops_run ?_); (· kernel_rfl)) | with_reducible (first | refine aw_condK ?_ | refine aw_skip ?_ | refine aw_ret ?_ | refine aw_exit ?_ | refine aw_label ?_ | refine aw_block ?_ | refine aw_scope ?_ | refine And.intro ?_ ?_)) <;> (try (simp (maxSteps := 1000000) (disch := first | exact dq | fail) only [go_sem])))
    | (with_reducible (first | refine wantK_split (fun h => ?_) (fun h => ?_) | refine condK_split (fun h => ?_) (fun h => ?_) | refine pickV_split (fun h => ?_) (fun h => ?_)) <;> (try (simp (maxSteps := 1000000) (disch := first | exact dq | fail) only [go_sem] at h)) <;> (try (simp (maxSteps := 1000000) (disch := first | exact dq | fail) only [go_sem, h])))))
        refine wk_by [] ?_; (simp (maxSteps := 1000000) (disch := first | exact dq | fail) only [go_sem])
    (repeat' (first
    | ((first | with_reducible (first | refine aw_seq ?_ | refine aw_region (aops_run ?_)) | (with_reducible refine aw_regionD (fun _ => .p) mixed ?_ (dops_run ?_); (· kernel_rfl)) | (with_reducible refine aw_regionD (fun _ => .r) mixed ?_ (dops_run ?_); (· kernel_rfl)) | with_reducible (first | refine aw_condK ?_ | refine aw_skip ?_ | refine aw_ret ?_ | refine aw_exit ?_ | refine aw_label ?_ | refine aw_block ?_ | refine aw_scope ?_ | refine And.intro ?_ ?_)) <;> (try (simp (maxSteps := 1000000) (disch := first | exact dq | fail) only [go_sem])))
    | (with_reducible (first | refine wantK_split (fun h => ?_) (fun h => ?_) | refine condK_split (fun h => ?_) (fun h => ?_) | refine pickV_split (fun h => ?_) (fun h => ?_)) <;> (try (simp (maxSteps := 1000000) (disch := first | exact dq | fail) only [go_sem] at h)) <;> (try (simp (maxSteps := 1000000) (disch := first | exact dq | fail) only [go_sem, h])))))
    all_goals (try omega)
    ((first | with_reducible apply left_callf | with_reducible apply leftD_callf | with_reducible apply leftF_callf); (· with_reducible rfl); (· (simp (maxSteps := 1000000) (disch := first | exact dq | fail) only [go_sem]) <;> rfl); (· exact hA); try (simp (maxSteps := 1000000) (disch := first | exact dq | fail) only [go_sem]))
    by_cases e : L = p.length
    · have e2 : (L : Int) = p.length := by omega
      rw [if_pos e] at s2
      (repeat' (first
    | ((first | with_reducible (first | refine aw_seq ?_ | refine aw_region (aops_run ?_)) | (with_reducible refine aw_regionD (fun _ => .p) mixed ?_ (dops_run ?_); (· kernel_rfl)) | (with_reducible refine aw_regionD (fun _ => .r) mixed ?_ (dops_run ?_); (· kernel_rfl)) | with_reducible (first | refine aw_condK ?_ | refine aw_skip ?_ | refine aw_ret ?_ | refine aw_exit ?_ | refine aw_label ?_ | refine aw_block ?_ | refine aw_scope ?_ | refine And.intro ?_ ?_)) <;> (try (simp (maxSteps := 1000000) (disch := first | exact dq | fail) only [go_sem, e2, decide_true])))
    | (with_reducible (first | refine wantK_split (fun h => ?_) (fun h => ?_) | refine condK_split (fun h => ?_) (fun h => ?_) | refine pickV_split (fun h => ?_) (fun h => ?_)) <;> (try (simp (maxSteps := 1000000) (disch := first | exact dq | fail) only [go_sem] at h)) <;> (try (simp (maxSteps := 1000000) (disch := first | exact dq | fail) only [go_sem, h, e2, decide_true])))))
      all_goals (try omega)
      refine ⟨i + 1, by omega, wk_by [] ?_, by omega⟩
      (simp (maxSteps := 1000000) (disch := first | exact dq | fail) only [go_sem, s2])
    · have e2 : ¬ ((L : Int) = p.length) := by omega
      rw [if_neg e] at s2
      (repeat' (first
    | ((first | with_reducible (first | refine aw_seq ?_ | refine aw_region (aops_run ?_)) | (with_reducible refine aw_regionD (fun _ => .p) mixed ?_ (dops_run ?_); (· kernel_rfl)) | (with_reducible refine aw_regionD (fun _ => .r) mixed ?_ (dops_run ?_); (· kernel_rfl)) | with_reducible (first | refine aw_condK ?_ | refine aw_skip ?_ | refine aw_ret ?_ | refine aw_exit ?_ | refine aw_label ?_ | refine aw_block ?_ | refine aw_scope ?_ | refine And.intro ?_ ?_)) <;> (try (simp (maxSteps := 1000000) (disch := first | exact dq | fail) only [go_sem, e2, decide_false])))
    | (with_reducible (first | refine wantK_split (fun h => ?_) (fun h => ?_) | refine condK_split (fun h => ?_) (fun h => ?_) | refine pickV_split (fun h => ?_) (fun h => ?_)) <;> (try (simp (maxSteps := 1000000) (disch := first | exact dq | fail) only [go_sem] at h)) <;> (try (simp (maxSteps := 1000000) (disch := first | exact dq | fail) only [go_sem, h, e2, decide_false])))))
      all_goals (try omega)
      refine ⟨i + 1, by omega, wk_by [] ?_, by omega⟩
      (simp (maxSteps := 1000000) (disch := first | exact dq | fail) only [go_sem, s2])
  · obtain rfl : i = l.length := by omega
    have hc : ¬ ((l.length : Int) < l.length) := by omega
    generalize cntF (wlP l p) l.length = a at *
    generalize cntF (eqP l p) l.length = b at *
    (repeat' (first
    | ((first | with_reducible (first | refine aw_seq ?_ | refine aw_region (aops_run ?_)) | (with_reducible refine aw_regionD (fun _ => .p) mixed ?_ (dops_run ?_); (· kernel_rfl)) | (with_reducible refine aw_regionD (fun _ => .r) mixed ?_ (dops_run ?_); (· kernel_rfl)) | with_reducible (first | refine aw_condK ?_ | refine aw_skip ?_ | refine aw_ret ?_ | refine aw_exit ?_ | refine aw_label ?_ | refine aw_block ?_ | refine aw_scope ?_ | refine And.intro ?_ ?_)) <;> (try (simp (maxSteps := 1000000) (disch := first | exact dq | fail) only [go_sem, hc, decide_false])))
    | (with_reducible (first | refine wantK_split (fun h => ?_) (fun h => ?_) | refine condK_split (fun h => ?_) (fun h => ?_) | refine pickV_split (fun h => ?_) (fun h => ?_)) <;> (try (simp (maxSteps := 1000000) (disch := first | exact dq | fail) only [go_sem] at h)) <;> (try (simp (maxSteps := 1000000) (disch := first | exact dq | fail) only [go_sem, h, hc, decide_false])))))
    all_goals (try omega)
theorem isF_at {l p : List Int} {r : Nat} (h : r < l.length) : isF true l p ((saL l).getD r 0) = !wlP l p ((saL l).getD r 0).toNat ∧ isF false l p ((saL l).getD r 0) = !(wlP l p ((saL l).getD r 0).toNat || eqP l p ((saL l).getD r 0).toNat) := by
  have hr := saL_rng l h
  have hb : begL l p ((saL l).getD r 0) = (l.drop ((saL l).getD r 0).toNat).take p.length := by unfold begL; rw [if_neg (by omega)]
  unfold isF wlP eqP
  rw [if_pos rfl, if_neg (by decide), hb, cmpL_cut]
  generalize wl (l.drop ((saL l).getD r 0).toNat) p = B
  generalize lcp (l.drop ((saL l).getD r 0).toNat) p = L
  cases B
  · by_cases e : L = p.length
    · simp [e]
    · simp [e]
  · simp
theorem sa_down {l p : List Int} : (∀ i j, i < j → j < l.length → wlP l p ((saL l).getD j 0).toNat = true → wlP l p ((saL l).getD i 0).toNat = true) ∧
    (∀ i j, i < j → j < l.length → (wlP l p ((saL l).getD j 0).toNat || eqP l p ((saL l).getD j 0).toNat) = true → (wlP l p ((saL l).getD i 0).toNat || eqP l p ((saL l).getD i 0).toNat) = true) := by
  refine ⟨fun i j hij hj h => (wl_cut (sa_wl hij hj)).1 h, fun i j hij hj h => ?_⟩
  unfold eqP wlP at *
  rw [Bool.or_eq_true, decide_eq_true_iff] at h ⊢
  rcases h with h | h
  · exact .inl ((wl_cut (sa_wl hij hj)).1 h)
  · exact (wl_cut (sa_wl hij hj)).2 h
theorem wl_eq_no {l p : List Int} {i : Nat} : ¬ (wlP l p i = true ∧ eqP l p i = true) := by
  rintro ⟨h1, h2⟩
  unfold wlP at h1
  unfold eqP at h2
  rw [decide_eq_true_iff] at h2
  have h3 := (cmpL_take (l.drop i) p)
  have := h3.1.2 h1
  have := h3.2.2 h2
  omega
theorem bs_from (l p : List Int) : bsL (isF true l p) (saL l) = cntF (wlP l p) l.length := by
  unfold bsL
  have hl := saL_len l
  have hd := cntF_down (f := fun j => wlP l p ((saL l).getD j 0).toNat) (sa_down (p := p)).1
  rw [cntF_sa] at hd
  have hle := cntF_le (wlP l p) l.length
  refine bsF_at _ _ _ _ (by omega) (by omega) (by omega) (fun j h1 h2 => ?_) (fun j h1 h2 => ?_)
  · show isF true l p ((saL l).getD j 0) = false
    rw [(isF_at (by omega)).1, (hd j (by omega)).2 h2]; rfl
  · show isF true l p ((saL l).getD j 0) = true
    rw [(isF_at (by omega)).1]
    cases hw : wlP l p ((saL l).getD j 0).toNat with
    | false => rfl
    | true => have := (hd j (by omega)).1 hw; omega
theorem cntF_both (l p : List Int) : cntF (fun j => wlP l p j || eqP l p j) l.length = cntF (wlP l p) l.length + cntF (eqP l p) l.length :=
  cntF_or (fun i _ => ⟨by simp, wl_eq_no⟩)
theorem bs_to (l p : List Int) : bsL (isF false l p) (saL l) = cntF (wlP l p) l.length + cntF (eqP l p) l.length := by
  unfold bsL
  have hl := saL_len l
  have hd := cntF_down (f := fun j => wlP l p ((saL l).getD j 0).toNat || eqP l p ((saL l).getD j 0).toNat) (sa_down (p := p)).2
  rw [cntF_sa l (fun j => wlP l p j || eqP l p j), cntF_both] at hd
  have hle := cntF_le (fun j => wlP l p j || eqP l p j) l.length
  rw [cntF_both] at hle
  refine bsF_at _ _ _ _ (by omega) (by omega) (by omega) (fun j h1 h2 => ?_) (fun j h1 h2 => ?_)
  · show isF false l p ((saL l).getD j 0) = false
    rw [(isF_at (by omega)).2, (hd j (by omega)).2 h2]; rfl
  · show isF false l p ((saL l).getD j 0) = true
    rw [(isF_at (by omega)).2]
    cases hw : (wlP l p ((saL l).getD j 0).toNat || eqP l p ((saL l).getD j 0).toNat) with
    | false => rfl
    | true => have := (hd j (by omega)).1 hw; omega
theorem Find_sa (l p : List Int) (hl : l.length ≤ 1000000) (hp : p.length ≤ 1000000) :
    PCalls Try.prog 22 [inl l, inl (saL l), inl p] (.tup [.int .i64 (cntF (wlP l p) l.length), .int .i64 (cntF (wlP l p) l.length + cntF (eqP l p) l.length : Nat)]) := by
  have h := Find_spec l (saL l) p hl hp (by rw [saL_len]; omega)
  rw [bs_from, bs_to, Nat.max_eq_right (by omega)] at h
  exact h
/-- What stands between the two places is what begins so. -/
theorem found_mem {l p : List Int} {i : Nat} (hi : i < l.length) : (i : Int) ∈ ((saL l).drop (cntF (wlP l p) l.length)).take (cntF (eqP l p) l.length) ↔ eqP l p i = true := by
  have hl := saL_len l
  have hd := cntF_down (f := fun j => wlP l p ((saL l).getD j 0).toNat) (sa_down (p := p)).1
  rw [cntF_sa] at hd
  have hd2 := cntF_down (f := fun j => wlP l p ((saL l).getD j 0).toNat || eqP l p ((saL l).getD j 0).toNat) (sa_down (p := p)).2
  rw [cntF_sa l (fun j => wlP l p j || eqP l p j), cntF_both] at hd2
  have hle := cntF_le (fun j => wlP l p j || eqP l p j) l.length
  rw [cntF_both] at hle
  generalize cntF (wlP l p) l.length = a at *
  generalize cntF (eqP l p) l.length = b at *
  constructor
  · intro h
    obtain ⟨j, hj, e⟩ := List.getElem_of_mem h
    rw [List.length_take, List.length_drop] at hj
    rw [List.getElem_take, List.getElem_drop, ← getD_el (by omega)] at e
    have h1 := (hd2 (a + j) (by omega)).2 (by omega)
    rw [e, Int.toNat_natCast, Bool.or_eq_true] at h1
    rcases h1 with h1 | h1
    · have := (hd (a + j) (by omega)).1 (by rw [e, Int.toNat_natCast]; exact h1)
      omega
    · exact h1
  · intro h
    have hr := rkN_lt hi
    have hs := sa_rkN hi
    have h1 := (hd2 (rkN l i) hr).1 (by rw [hs, Int.toNat_natCast, h, Bool.or_true])
    have h2 : a ≤ rkN l i := by
      rcases Nat.lt_or_ge (rkN l i) a with g | g
      · have := (hd (rkN l i) hr).2 g
        rw [hs, Int.toNat_natCast] at this
        exact absurd ⟨this, h⟩ wl_eq_no
      · exact g
    rw [List.mem_iff_getElem]
    refine ⟨rkN l i - a, by rw [List.length_take, List.length_drop]; omega, ?_⟩
    rw [List.getElem_take, List.getElem_drop, ← getD_el (by omega), show a + (rkN l i - a) = rkN l i by omega, hs]
end Go.Proofs.Ytejhomoafhnipaa.AM
