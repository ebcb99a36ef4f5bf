
/- Chapter 7: Ranks, slices.Equal, the document's Alike and Common; Common. No condition but lengths that fit. -/
import Derived.Test.YtejhomoafhnipaaSC
set_option linter.unusedVariables false
set_option linter.unusedSimpArgs false
set_option maxRecDepth 20000
namespace Go.Proofs.Ytejhomoafhnipaa.AM
open Go Go.RowKit

theorem saL_all (l : List Int) : allB (saL l) = true := allB_yes (fun i hi => (saN_mem l _ _).2 (by rw [saL_len] at hi; omega))
def rkL (l : List Int) : List Int := invL (saL l)
theorem saL_rng (l : List Int) {r : Nat} (h : r < l.length) : 0 ≤ (saL l).getD r 0 ∧ (saL l).getD r 0 < l.length := by
  have hm : (saL l).getD r 0 ∈ saL l := getD_mem (by rw [saL_len]; exact h)
  exact ((saL_sa l).2 _).1 hm
theorem rk_sa {l : List Int} {r : Nat} (h : r < l.length) : (rkL l).getD ((saL l).getD r 0).toNat 0 = r := invL_at (saL_all l) (by rw [saL_len]; exact h)
theorem sa_rk2 {l : List Int} {i : Nat} (h : i < l.length) : 0 ≤ (rkL l).getD i 0 ∧ (rkL l).getD i 0 < l.length ∧ (saL l).getD ((rkL l).getD i 0).toNat 0 = i := by
  have h1 := (allB_pm (invL_all (saL_all l))).rng i (by rw [invL_len, saL_len]; exact h)
  have h2 := invL_at (invL_all (saL_all l)) (j := i) (by rw [invL_len, saL_len]; exact h)
  rw [invL_back (saL_all l)] at h2
  rw [invL_len, saL_len] at h1
  exact ⟨h1.1, h1.2, h2⟩
theorem Equal_spec (a b : List Int) (ha : a.length ≤ 1000000) : PCalls Try.prog 40 [inl a, inl b] (.bool (decide (a = b))) := by
  by_cases hlen : a.length = b.length
  · have hb : (b.length : Int) = a.length := by omega
    refine PCalls.of_aw Try.func40 rfl (by unfold Callable; kernel_rfl) (by kernel_rfl) (by simp [Try.ntmps40]) ?_; rw [Try.ntmps40, Try.results40]; (simp (disch := first | exact dq | fail) only [go_sem])
    (repeat' (first
    | ((first | with_reducible (first | refine aw_seq ?_ | refine aw_region (aops_run ?_)) | (with_reducible refine aw_regionD (fun _ => .p) mixed ?_ (dops_run ?_); (· kernel_rfl)) | (with_reducible refine aw_regionD (fun _ => .r) mixed ?_ (dops_run ?_); (· kernel_rfl)) | with_reducible (first | refine aw_condK ?_ | refine aw_skip ?_ | refine aw_ret ?_ | refine aw_exit ?_ | refine aw_label ?_ | refine aw_block ?_ | refine aw_scope ?_ | refine And.intro ?_ ?_)) <;> (try (simp (disch := first | exact dq | fail) only [go_sem, hb, eq_self, decide_true])))
    | (with_reducible (first | refine wantK_split (fun h => ?_) (fun h => ?_) | refine condK_split (fun h => ?_) (fun h => ?_) | refine pickV_split (fun h => ?_) (fun h => ?_)) <;> (try (simp (disch := first | exact dq | fail) only [go_sem] at h)) <;> (try (simp (disch := first | exact dq | fail) only [go_sem, h, hb, eq_self, decide_true])))))
    all_goals (try omega)
    refine aw_loop (α := Nat) (fun i => ⟨26, sl [(0, .iv (inl a)), (1, .iv (inl b)), (12, .iv (.int .i64 a.length)), (13, .iv (.int .i64 i))], [], 0⟩)
      (fun i => i ≤ a.length ∧ ∀ j, j < i → a.getD j 0 = b.getD j 0) (fun i => a.length - i) 0 (wk_by [] ?_) ⟨by omega, fun j hj => by omega⟩ ?_
    · (simp (disch := first | exact dq | fail) only [go_sem])
    rintro i ⟨hi, he⟩
    by_cases h : i < a.length
    · by_cases g : a.getD i 0 = b.getD i 0
      · (repeat' (first
    | ((first | with_reducible (first | refine aw_seq ?_ | refine aw_region (aops_run ?_)) | (with_reducible refine aw_regionD (fun _ => .p) mixed ?_ (dops_run ?_); (· kernel_rfl)) | (with_reducible refine aw_regionD (fun _ => .r) mixed ?_ (dops_run ?_); (· kernel_rfl)) | with_reducible (first | refine aw_condK ?_ | refine aw_skip ?_ | refine aw_ret ?_ | refine aw_exit ?_ | refine aw_label ?_ | refine aw_block ?_ | refine aw_scope ?_ | refine And.intro ?_ ?_)) <;> (try (simp (disch := first | exact dq | fail) only [go_sem, g, decide_true, decide_false])))
    | (with_reducible (first | refine wantK_split (fun h => ?_) (fun h => ?_) | refine condK_split (fun h => ?_) (fun h => ?_) | refine pickV_split (fun h => ?_) (fun h => ?_)) <;> (try (simp (disch := first | exact dq | fail) only [go_sem] at h)) <;> (try (simp (disch := first | exact dq | fail) only [go_sem, h, g, decide_true, decide_false])))))
        all_goals (try omega)
        refine ⟨i + 1, ⟨by omega, fun j hj => ?_⟩, wk_by [] ?_, by omega⟩
        · by_cases e : j = i
          · subst e; exact g
          · exact he j (by omega)
        · (simp (disch := first | exact dq | fail) only [go_sem])
      · have hne : decide (a = b) = false := decide_eq_false (fun e => g (by rw [e]))
        rw [hne]
        (repeat' (first
    | ((first | with_reducible (first | refine aw_seq ?_ | refine aw_region (aops_run ?_)) | (with_reducible refine aw_regionD (fun _ => .p) mixed ?_ (dops_run ?_); (· kernel_rfl)) | (with_reducible refine aw_regionD (fun _ => .r) mixed ?_ (dops_run ?_); (· kernel_rfl)) | with_reducible (first | refine aw_condK ?_ | refine aw_skip ?_ | refine aw_ret ?_ | refine aw_exit ?_ | refine aw_label ?_ | refine aw_block ?_ | refine aw_scope ?_ | refine And.intro ?_ ?_)) <;> (try (simp (disch := first | exact dq | fail) only [go_sem, g, decide_true, decide_false])))
    | (with_reducible (first | refine wantK_split (fun h => ?_) (fun h => ?_) | refine condK_split (fun h => ?_) (fun h => ?_) | refine pickV_split (fun h => ?_) (fun h => ?_)) <;> (try (simp (disch := first | exact dq | fail) only [go_sem] at h)) <;> (try (simp (disch := first | exact dq | fail) only [go_sem, h, g, decide_true, decide_false])))))
        all_goals (try omega)
    · have hab : a = b := List.ext_getElem hlen (fun j h1 h2 => by
        have := he j (by omega)
        rwa [getD_el h1, getD_el h2] at this)
      rw [decide_eq_true hab]
      (repeat' (first
    | ((first | with_reducible (first | refine aw_seq ?_ | refine aw_region (aops_run ?_)) | (with_reducible refine aw_regionD (fun _ => .p) mixed ?_ (dops_run ?_); (· kernel_rfl)) | (with_reducible refine aw_regionD (fun _ => .r) mixed ?_ (dops_run ?_); (· kernel_rfl)) | with_reducible (first | refine aw_condK ?_ | refine aw_skip ?_ | refine aw_ret ?_ | refine aw_exit ?_ | refine aw_label ?_ | refine aw_block ?_ | refine aw_scope ?_ | refine And.intro ?_ ?_)) <;> (try (simp (disch := first | exact dq | fail) only [go_sem])))
    | (with_reducible (first | refine wantK_split (fun h => ?_) (fun h => ?_) | refine condK_split (fun h => ?_) (fun h => ?_) | refine pickV_split (fun h => ?_) (fun h => ?_)) <;> (try (simp (disch := first | exact dq | fail) only [go_sem] at h)) <;> (try (simp (disch := first | exact dq | fail) only [go_sem, h])))))
      all_goals (try omega)
  · have hb : ¬ ((a.length : Int) = b.length) := by omega
    have hne : decide (a = b) = false := decide_eq_false (fun e => hlen (by rw [e]))
    rw [hne]
    refine PCalls.of_aw Try.func40 rfl (by unfold Callable; kernel_rfl) (by kernel_rfl) (by simp [Try.ntmps40]) ?_; rw [Try.ntmps40, Try.results40]; (simp (disch := first | exact dq | fail) only [go_sem])
    (repeat' (first
    | ((first | with_reducible (first | refine aw_seq ?_ | refine aw_region (aops_run ?_)) | (with_reducible refine aw_regionD (fun _ => .p) mixed ?_ (dops_run ?_); (· kernel_rfl)) | (with_reducible refine aw_regionD (fun _ => .r) mixed ?_ (dops_run ?_); (· kernel_rfl)) | with_reducible (first | refine aw_condK ?_ | refine aw_skip ?_ | refine aw_ret ?_ | refine aw_exit ?_ | refine aw_label ?_ | refine aw_block ?_ | refine aw_scope ?_ | refine And.intro ?_ ?_)) <;> (try (simp (disch := first | exact dq | fail) only [go_sem, hb, decide_false])))
    | (with_reducible (first | refine wantK_split (fun h => ?_) (fun h => ?_) | refine condK_split (fun h => ?_) (fun h => ?_) | refine pickV_split (fun h => ?_) (fun h => ?_)) <;> (try (simp (disch := first | exact dq | fail) only [go_sem] at h)) <;> (try (simp (disch := first | exact dq | fail) only [go_sem, h, hb, decide_false])))))
    all_goals (try omega)
def rkN (l : List Int) (i : Nat) : Nat := ((rkL l).getD i 0).toNat
theorem rkN_lt {l : List Int} {i : Nat} (h : i < l.length) : rkN l i < l.length := by have := sa_rk2 h; unfold rkN; omega
theorem rkN_eq {l : List Int} {i : Nat} (h : i < l.length) : (rkL l).getD i 0 = (rkN l i : Nat) := by have := sa_rk2 h; unfold rkN; omega
theorem sa_rkN {l : List Int} {i : Nat} (h : i < l.length) : (saL l).getD (rkN l i) 0 = i := (sa_rk2 h).2.2
theorem sa_wl {l : List Int} {r q : Nat} (h : r < q) (hq : q < l.length) : wl (l.drop ((saL l).getD r 0).toNat) (l.drop ((saL l).getD q 0).toNat) = true := by
  have := List.pairwise_iff_getElem.1 (saL_sa l).1 r q (by rw [saL_len]; omega) (by rw [saL_len]; omega) h
  rw [← getD_el, ← getD_el] at this
  exact this
theorem rkN_wl {l : List Int} {a b : Nat} (ha : a < l.length) (hb : b < l.length) : rkN l a < rkN l b ↔ wl (l.drop a) (l.drop b) = true := by
  have h1 := sa_rkN ha
  have h2 := sa_rkN hb
  constructor
  · intro h
    have := sa_wl h (rkN_lt hb)
    rwa [h1, h2, Int.toNat_natCast, Int.toNat_natCast] at this
  · intro h
    rcases Nat.lt_trichotomy (rkN l a) (rkN l b) with g | g | g
    · exact g
    · rw [g, h2] at h1
      have : a = b := by omega
      subst this
      rw [wl_irr] at h; cases h
    · have := sa_wl g (rkN_lt ha)
      rw [h1, h2, Int.toNat_natCast, Int.toNat_natCast] at this
      exact (sl2_asym (l := l) (i := a) (k := b) h this).elim
end Go.Proofs.Ytejhomoafhnipaa.AM
