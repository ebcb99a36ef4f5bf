
/- Chapter 7: Find, the document's Find. No condition but lengths that fit. -/
import Derived.Test.YtejhomoafhnipaaS17
set_option linter.unusedVariables false
set_option linter.unusedSimpArgs false
set_option maxRecDepth 20000
namespace Go.Proofs.Ytejhomoafhnipaa.AM
open Go Go.RowKit

def findM (l p : List Int) : List MO := [.var 22 [.iv (inl l)], .var 22 [.iv (inl p)], .var 50 [.fn 42 [.mp 0 0, .mp 1 0]]]
/-- What a suffix begins with; nothing, if there is no such place. -/
def begL (l p : List Int) (i : Int) : List Int := if i < 0 ∨ l.length < i then [] else (l.drop i.toNat).take p.length
theorem begins_spec (l p : List Int) (i : Int) (hl : l.length ≤ 1000000) (hp : p.length ≤ 1000000) :
    MCalls Try.prog 42 [.iv (.int .i64 i), .mp 0 0, .mp 1 0] [.var 22 [.iv (inl l)], .var 22 [.iv (inl p)]] (.iv (inl (begL l p i))) [.var 22 [.iv (inl l)], .var 22 [.iv (inl p)]] := by
  unfold begL
  by_cases h : i < 0 ∨ l.length < i
  · rw [if_pos h]
    by_cases h0 : i < 0
    · refine MCalls.of_aw Try.func42 rfl (by unfold Callable; kernel_rfl) (by kernel_rfl) (by simp [Try.ntmps42]) (by (simp (maxSteps := 1000000) (disch := first | exact dq | fail) only [go_sem])) ?_; rw [Try.ntmps42, Try.results42]; (simp (maxSteps := 1000000) (disch := first | exact dq | fail) only [go_sem])
      (repeat' (first
    | ((first | with_reducible (first | refine aw_seq ?_ | refine aw_region (aops_run ?_)) | (with_reducible refine aw_regionD (fun _ => .p) mixed ?_ (dops_run ?_); (· kernel_rfl)) | (with_reducible refine aw_regionD (fun _ => .r) mixed ?_ (dops_run ?_); (· kernel_rfl)) | with_reducible (first | refine aw_condK ?_ | refine aw_skip ?_ | refine aw_ret ?_ | refine aw_exit ?_ | refine aw_label ?_ | refine aw_block ?_ | refine aw_scope ?_ | refine And.intro ?_ ?_)) <;> (try (simp (maxSteps := 1000000) (disch := first | exact dq | fail) only [go_sem, h0, decide_true])))
    | (with_reducible (first | refine wantK_split (fun h => ?_) (fun h => ?_) | refine condK_split (fun h => ?_) (fun h => ?_) | refine pickV_split (fun h => ?_) (fun h => ?_)) <;> (try (simp (maxSteps := 1000000) (disch := first | exact dq | fail) only [go_sem] at h)) <;> (try (simp (maxSteps := 1000000) (disch := first | exact dq | fail) only [go_sem, h, h0, decide_true])))))
      all_goals (try omega)
      all_goals (refine fin_f [0, 1] ?_ ; (simp (maxSteps := 1000000) (disch := first | exact dq | fail) only [go_sem]))
    · have h1 : i > (l.length : Int) := by omega
      refine MCalls.of_aw Try.func42 rfl (by unfold Callable; kernel_rfl) (by kernel_rfl) (by simp [Try.ntmps42]) (by (simp (maxSteps := 1000000) (disch := first | exact dq | fail) only [go_sem])) ?_; rw [Try.ntmps42, Try.results42]; (simp (maxSteps := 1000000) (disch := first | exact dq | fail) only [go_sem])
      (repeat' (first
    | ((first | with_reducible (first | refine aw_seq ?_ | refine aw_region (aops_run ?_)) | (with_reducible refine aw_regionD (fun _ => .p) mixed ?_ (dops_run ?_); (· kernel_rfl)) | (with_reducible refine aw_regionD (fun _ => .r) mixed ?_ (dops_run ?_); (· kernel_rfl)) | with_reducible (first | refine aw_condK ?_ | refine aw_skip ?_ | refine aw_ret ?_ | refine aw_exit ?_ | refine aw_label ?_ | refine aw_block ?_ | refine aw_scope ?_ | refine And.intro ?_ ?_)) <;> (try (simp (maxSteps := 1000000) (disch := first | exact dq | fail) only [go_sem, h0, h1, decide_true, decide_false])))
    | (with_reducible (first | refine wantK_split (fun h => ?_) (fun h => ?_) | refine condK_split (fun h => ?_) (fun h => ?_) | refine pickV_split (fun h => ?_) (fun h => ?_)) <;> (try (simp (maxSteps := 1000000) (disch := first | exact dq | fail) only [go_sem] at h)) <;> (try (simp (maxSteps := 1000000) (disch := first | exact dq | fail) only [go_sem, h, h0, h1, decide_true, decide_false])))))
      all_goals (try omega)
      all_goals (refine fin_f [0, 1] ?_ ; (simp (maxSteps := 1000000) (disch := first | exact dq | fail) only [go_sem]))
  · rw [if_neg h]
    have h0 : ¬ (i < 0) := by omega
    have h1 : ¬ (i > (l.length : Int)) := by omega
    obtain ⟨k, rfl⟩ : ∃ k : Nat, i = k := ⟨i.toNat, by omega⟩
    rw [Int.toNat_natCast]
    obtain ⟨m, hm⟩ : ∃ m, m = min l.length (k + p.length) := ⟨_, rfl⟩
    have hm2 : min (l.length : Int) ((k : Int) + p.length) = m := by omega
    have hk1 : (k : Int) ≤ m := by omega
    have hk2 : (m : Int) ≤ l.length := by omega
    by_cases e : m = k
    · have he : (l.drop k).take p.length = [] := by
        apply List.eq_nil_of_length_eq_zero
        rw [List.length_take, List.length_drop]; omega
      rw [he]
      have e2 : (m : Int) = k := by omega
      refine MCalls.resI (r := .sl 0 []) ?_ (Sq.nil 0 1)
      refine MCalls.of_aw Try.func42 rfl (by unfold Callable; kernel_rfl) (by kernel_rfl) (by simp [Try.ntmps42]) (by (simp (maxSteps := 1000000) (disch := first | exact dq | fail) only [go_sem])) ?_; rw [Try.ntmps42, Try.results42]; (simp (maxSteps := 1000000) (disch := first | exact dq | fail) only [go_sem])
      (repeat' (first
    | ((first | with_reducible (first | refine aw_seq ?_ | refine aw_region (aops_run ?_)) | (with_reducible refine aw_regionD (fun _ => .p) mixed ?_ (dops_run ?_); (· kernel_rfl)) | (with_reducible refine aw_regionD (fun _ => .r) mixed ?_ (dops_run ?_); (· kernel_rfl)) | with_reducible (first | refine aw_condK ?_ | refine aw_skip ?_ | refine aw_ret ?_ | refine aw_exit ?_ | refine aw_label ?_ | refine aw_block ?_ | refine aw_scope ?_ | refine And.intro ?_ ?_)) <;> (try (simp (maxSteps := 1000000) (disch := first | exact dq | fail) only [go_sem, h0, h1, hm2, e2, decide_true, decide_false])))
    | (with_reducible (first | refine wantK_split (fun h => ?_) (fun h => ?_) | refine condK_split (fun h => ?_) (fun h => ?_) | refine pickV_split (fun h => ?_) (fun h => ?_)) <;> (try (simp (maxSteps := 1000000) (disch := first | exact dq | fail) only [go_sem] at h)) <;> (try (simp (maxSteps := 1000000) (disch := first | exact dq | fail) only [go_sem, h, h0, h1, hm2, e2, decide_true, decide_false])))))
      all_goals (try omega)
      all_goals (refine fin_f [0, 1] ?_ ; (simp (maxSteps := 1000000) (disch := first | exact dq | fail) only [go_sem]))
    · have e2 : ¬ ((m : Int) = k) := by omega
      have he : List.take (m - k) (List.drop k (l.map (IV.int .i64))) = ((l.drop k).take p.length).map (IV.int .i64) := by
        rw [List.map_take, List.map_drop]
        by_cases g : k + p.length ≤ l.length
        · rw [show m - k = p.length by omega]
        · rw [List.take_of_length_le (by simp; omega), List.take_of_length_le (by simp; omega)]
      refine MCalls.of_aw Try.func42 rfl (by unfold Callable; kernel_rfl) (by kernel_rfl) (by simp [Try.ntmps42]) (by (simp (maxSteps := 1000000) (disch := first | exact dq | fail) only [go_sem])) ?_; rw [Try.ntmps42, Try.results42]; (simp (maxSteps := 1000000) (disch := first | exact dq | fail) only [go_sem])
      (repeat' (first
    | ((first | with_reducible (first | refine aw_seq ?_ | refine aw_region (aops_run ?_)) | (with_reducible refine aw_regionD (fun _ => .p) mixed ?_ (dops_run ?_); (· kernel_rfl)) | (with_reducible refine aw_regionD (fun _ => .r) mixed ?_ (dops_run ?_); (· kernel_rfl)) | with_reducible (first | refine aw_condK ?_ | refine aw_skip ?_ | refine aw_ret ?_ | refine aw_exit ?_ | refine aw_label ?_ | refine aw_block ?_ | refine aw_scope ?_ | refine And.intro ?_ ?_)) <;> (try (simp (maxSteps := 1000000) (disch := first | exact dq | fail) only [go_sem, h0, h1, hm2, e2, he, decide_true, decide_false])))
    | (with_reducible (first | refine wantK_split (fun h => ?_) (fun h => ?_) | refine condK_split (fun h => ?_) (fun h => ?_) | refine pickV_split (fun h => ?_) (fun h => ?_)) <;> (try (simp (maxSteps := 1000000) (disch := first | exact dq | fail) only [go_sem] at h)) <;> (try (simp (maxSteps := 1000000) (disch := first | exact dq | fail) only [go_sem, h, h0, h1, hm2, e2, he, decide_true, decide_false])))))
      all_goals (try omega)
      all_goals (refine fin_k [0, 1] ?_ ; (simp (maxSteps := 1000000) (disch := first | exact dq | fail) only [go_sem]))
def isF (eq : Bool) (l p : List Int) (i : Int) : Bool := if eq = true then decide (0 ≤ cmpL (begL l p i) p) else decide (0 < cmpL (begL l p i) p)
theorem begL_len (l p : List Int) (i : Int) : (begL l p i).length ≤ p.length := by
  unfold begL; split
  · simp
  · rw [List.length_take]; omega
theorem is2_spec (l p : List Int) (i : Int) (hl : l.length ≤ 1000000) (hp : p.length ≤ 1000000) : MCalls Try.prog 44 [.iv (.int .i64 i), .mp 2 0, .mp 1 0] (findM l p) (.iv (.bool (isF true l p i))) (findM l p) := by
  have hb := begins_spec l p i hl hp
  have hc := Compare_spec (begL l p i) p (by have := begL_len l p i; omega) hp
  unfold isF
  rw [if_pos rfl]
  generalize begL l p i = b at *
  refine MCalls.of_aw Try.func44 rfl (by unfold Callable; kernel_rfl) (by kernel_rfl) (by simp [Try.ntmps44]) (by (simp (maxSteps := 1000000) (disch := first | exact dq | fail) only [go_sem, findM])) ?_; rw [Try.ntmps44, Try.results44]; (simp (maxSteps := 1000000) (disch := first | exact dq | fail) only [go_sem, findM])
  (repeat' (first
    | ((first | with_reducible (first | refine aw_seq ?_ | refine aw_region (aops_run ?_)) | (with_reducible refine aw_regionD (fun _ => .r) mixed ?_ (dops_run ?_); (· kernel_rfl)) | with_reducible (first | refine aw_condK ?_ | refine aw_skip ?_ | refine aw_ret ?_ | refine aw_exit ?_ | refine aw_label ?_ | refine aw_block ?_ | refine aw_scope ?_ | refine And.intro ?_ ?_)) <;> (try (simp (maxSteps := 1000000) (disch := first | exact dq | fail) only [go_sem])))
    | (with_reducible (first | refine wantK_split (fun h => ?_) (fun h => ?_) | refine condK_split (fun h => ?_) (fun h => ?_) | refine pickV_split (fun h => ?_) (fun h => ?_)) <;> (try (simp (maxSteps := 1000000) (disch := first | exact dq | fail) only [go_sem] at h)) <;> (try (simp (maxSteps := 1000000) (disch := first | exact dq | fail) only [go_sem, h])))))
  ((first | with_reducible refine left_callMs [0, 1] (hb) ?_ ?_ | with_reducible refine leftD_callMs [0, 1] rfl (hb) ?_ ?_ | with_reducible refine leftD_callRs [0, 1] (by decide) (hb) ?_ ?_); (· (simp (maxSteps := 1000000) (disch := first | exact dq | fail) only [go_sem])); try (simp (maxSteps := 1000000) (disch := first | exact dq | fail) only [go_sem]))
  (repeat' (first
    | ((first | with_reducible (first | refine aw_seq ?_ | refine aw_region (aops_run ?_)) | (with_reducible refine aw_regionD (fun _ => .r) mixed ?_ (dops_run ?_); (· kernel_rfl)) | with_reducible (first | refine aw_condK ?_ | refine aw_skip ?_ | refine aw_ret ?_ | refine aw_exit ?_ | refine aw_label ?_ | refine aw_block ?_ | refine aw_scope ?_ | refine And.intro ?_ ?_)) <;> (try (simp (maxSteps := 1000000) (disch := first | exact dq | fail) only [go_sem])))
    | (with_reducible (first | refine wantK_split (fun h => ?_) (fun h => ?_) | refine condK_split (fun h => ?_) (fun h => ?_) | refine pickV_split (fun h => ?_) (fun h => ?_)) <;> (try (simp (maxSteps := 1000000) (disch := first | exact dq | fail) only [go_sem] at h)) <;> (try (simp (maxSteps := 1000000) (disch := first | exact dq | fail) only [go_sem, h])))))
  ((first | with_reducible apply left_callf | with_reducible apply leftD_callf | with_reducible apply leftF_callf); (· with_reducible rfl); (· (simp (maxSteps := 1000000) (disch := first | exact dq | fail) only [go_sem]) <;> rfl); (· exact hc); try (simp (maxSteps := 1000000) (disch := first | exact dq | fail) only [go_sem]))
  (repeat' (first
    | ((first | with_reducible (first | refine aw_seq ?_ | refine aw_region (aops_run ?_)) | (with_reducible refine aw_regionD (fun _ => .r) mixed ?_ (dops_run ?_); (· kernel_rfl)) | with_reducible (first | refine aw_condK ?_ | refine aw_skip ?_ | refine aw_ret ?_ | refine aw_exit ?_ | refine aw_label ?_ | refine aw_block ?_ | refine aw_scope ?_ | refine And.intro ?_ ?_)) <;> (try (simp (maxSteps := 1000000) (disch := first | exact dq | fail) only [go_sem])))
    | (with_reducible (first | refine wantK_split (fun h => ?_) (fun h => ?_) | refine condK_split (fun h => ?_) (fun h => ?_) | refine pickV_split (fun h => ?_) (fun h => ?_)) <;> (try (simp (maxSteps := 1000000) (disch := first | exact dq | fail) only [go_sem] at h)) <;> (try (simp (maxSteps := 1000000) (disch := first | exact dq | fail) only [go_sem, h])))))
  all_goals (try omega)
  all_goals (refine fin_k [0, 1, 2] ?_ ; (simp (maxSteps := 1000000) (disch := first | exact dq | fail) only [go_sem]))
theorem is3_spec (l p : List Int) (i : Int) (hl : l.length ≤ 1000000) (hp : p.length ≤ 1000000) : MCalls Try.prog 46 [.iv (.int .i64 i), .mp 2 0, .mp 1 0] (findM l p) (.iv (.bool (isF false l p i))) (findM l p) := by
  have hb := begins_spec l p i hl hp
  have hc := Compare_spec (begL l p i) p (by have := begL_len l p i; omega) hp
  unfold isF
  rw [if_neg (by decide)]
  generalize begL l p i = b at *
  refine MCalls.of_aw Try.func46 rfl (by unfold Callable; kernel_rfl) (by kernel_rfl) (by simp [Try.ntmps46]) (by (simp (maxSteps := 1000000) (disch := first | exact dq | fail) only [go_sem, findM])) ?_; rw [Try.ntmps46, Try.results46]; (simp (maxSteps := 1000000) (disch := first | exact dq | fail) only [go_sem, findM])
  (repeat' (first
    | ((first | with_reducible (first | refine aw_seq ?_ | refine aw_region (aops_run ?_)) | (with_reducible refine aw_regionD (fun _ => .r) mixed ?_ (dops_run ?_); (· kernel_rfl)) | with_reducible (first | refine aw_condK ?_ | refine aw_skip ?_ | refine aw_ret ?_ | refine aw_exit ?_ | refine aw_label ?_ | refine aw_block ?_ | refine aw_scope ?_ | refine And.intro ?_ ?_)) <;> (try (simp (maxSteps := 1000000) (disch := first | exact dq | fail) only [go_sem])))
    | (with_reducible (first | refine wantK_split (fun h => ?_) (fun h => ?_) | refine condK_split (fun h => ?_) (fun h => ?_) | refine pickV_split (fun h => ?_) (fun h => ?_)) <;> (try (simp (maxSteps := 1000000) (disch := first | exact dq | fail) only [go_sem] at h)) <;> (try (simp (maxSteps := 1000000) (disch := first | exact dq | fail) only [go_sem, h])))))
  ((first | with_reducible refine left_callMs [0, 1] (hb) ?_ ?_ | with_reducible refine leftD_callMs [0, 1] rfl (hb) ?_ ?_ | with_reducible refine leftD_callRs [0, 1] (by decide) (hb) ?_ ?_); (· (simp (maxSteps := 1000000) (disch := first | exact dq | fail) only [go_sem])); try (simp (maxSteps := 1000000) (disch := first | exact dq | fail) only [go_sem]))
  (repeat' (first
    | ((first | with_reducible (first | refine aw_seq ?_ | refine aw_region (aops_run ?_)) | (with_reducible refine aw_regionD (fun _ => .r) mixed ?_ (dops_run ?_); (· kernel_rfl)) | with_reducible (first | refine aw_condK ?_ | refine aw_skip ?_ | refine aw_ret ?_ | refine aw_exit ?_ | refine aw_label ?_ | refine aw_block ?_ | refine aw_scope ?_ | refine And.intro ?_ ?_)) <;> (try (simp (maxSteps := 1000000) (disch := first | exact dq | fail) only [go_sem])))
    | (with_reducible (first | refine wantK_split (fun h => ?_) (fun h => ?_) | refine condK_split (fun h => ?_) (fun h => ?_) | refine pickV_split (fun h => ?_) (fun h => ?_)) <;> (try (simp (maxSteps := 1000000) (disch := first | exact dq | fail) only [go_sem] at h)) <;> (try (simp (maxSteps := 1000000) (disch := first | exact dq | fail) only [go_sem, h])))))
  ((first | with_reducible apply left_callf | with_reducible apply leftD_callf | with_reducible apply leftF_callf); (· with_reducible rfl); (· (simp (maxSteps := 1000000) (disch := first | exact dq | fail) only [go_sem]) <;> rfl); (· exact hc); try (simp (maxSteps := 1000000) (disch := first | exact dq | fail) only [go_sem]))
  (repeat' (first
    | ((first | with_reducible (first | refine aw_seq ?_ | refine aw_region (aops_run ?_)) | (with_reducible refine aw_regionD (fun _ => .r) mixed ?_ (dops_run ?_); (· kernel_rfl)) | with_reducible (first | refine aw_condK ?_ | refine aw_skip ?_ | refine aw_ret ?_ | refine aw_exit ?_ | refine aw_label ?_ | refine aw_block ?_ | refine aw_scope ?_ | refine And.intro ?_ ?_)) <;> (try (simp (maxSteps := 1000000) (disch := first | exact dq | fail) only [go_sem])))
    | (with_reducible (first | refine wantK_split (fun h => ?_) (fun h => ?_) | refine condK_split (fun h => ?_) (fun h => ?_) | refine pickV_split (fun h => ?_) (fun h => ?_)) <;> (try (simp (maxSteps := 1000000) (disch := first | exact dq | fail) only [go_sem] at h)) <;> (try (simp (maxSteps := 1000000) (disch := first | exact dq | fail) only [go_sem, h])))))
  all_goals (try omega)
  all_goals (refine fin_k [0, 1, 2] ?_ ; (simp (maxSteps := 1000000) (disch := first | exact dq | fail) only [go_sem]))
def bsL (f : Int → Bool) (s : List Int) : Nat := bsF (fun j => f (s.getD j 0)) s.length 0 s.length
theorem first_spec (f : Nat) (pr : Int → Bool) (l p s : List Int) (hp : ∀ i, MCalls Try.prog f [.iv (.int .i64 i), .mp 2 0, .mp 1 0] (findM l p) (.iv (.bool (pr i))) (findM l p)) (hs : s.length ≤ 1000000) :
    MCalls Try.prog 43 [.iv (inl s), .fn f [.mp 2 0, .mp 1 0]] (findM l p) (.iv (.int .i64 (bsL pr s))) (findM l p) := by
  unfold bsL
  generalize hg : (fun (j : Nat) => pr (s.getD j 0)) = g
  refine MCalls.of_aw Try.func43 rfl (by unfold Callable; kernel_rfl) (by kernel_rfl) (by simp [Try.ntmps43]) (by (simp (maxSteps := 1000000) (disch := first | exact dq | fail) only [go_sem, findM])) ?_; rw [Try.ntmps43, Try.results43]; (simp (maxSteps := 1000000) (disch := first | exact dq | fail) only [go_sem, findM])
  (repeat' (first
    | ((first | with_reducible (first | refine aw_seq ?_ | refine aw_region (aops_run ?_)) | (with_reducible refine aw_regionD (fun _ => .p) mixed ?_ (dops_run ?_); (· kernel_rfl)) | (with_reducible refine aw_regionD (fun _ => .r) mixed ?_ (dops_run ?_); (· kernel_rfl)) | with_reducible (first | refine aw_condK ?_ | refine aw_skip ?_ | refine aw_ret ?_ | refine aw_exit ?_ | refine aw_label ?_ | refine aw_block ?_ | refine aw_scope ?_ | refine And.intro ?_ ?_)) <;> (try (simp (maxSteps := 1000000) (disch := first | exact dq | fail) only [go_sem])))
    | (with_reducible (first | refine wantK_split (fun h => ?_) (fun h => ?_) | refine condK_split (fun h => ?_) (fun h => ?_) | refine pickV_split (fun h => ?_) (fun h => ?_)) <;> (try (simp (maxSteps := 1000000) (disch := first | exact dq | fail) only [go_sem] at h)) <;> (try (simp (maxSteps := 1000000) (disch := first | exact dq | fail) only [go_sem, h])))))
  refine aw_loop (α := Nat × Nat) (fun x => ⟨27, sl [(0, .iv (inl s)), (1, .fn f [.mp 2 0, .mp 1 0]), (5, .iv (.int .i64 x.1)), (6, .iv (.int .i64 x.2))], findM l p, 3⟩)
    (fun x => x.1 ≤ x.2 ∧ x.2 ≤ s.length ∧ bsF g (x.2 - x.1) x.1 x.2 = bsF g s.length 0 s.length) (fun x => x.2 - x.1) (0, s.length) (wk_by [0, 1, 2] ?_) ⟨by dsimp only; omega, by dsimp only; omega, rfl⟩ ?_
  · (simp (maxSteps := 1000000) (disch := first | exact dq | fail) only [go_sem, findM])
  rintro ⟨a, b⟩ ⟨h1, h2, h3⟩
  dsimp only at h1 h2 h3
  by_cases h : a < b
  · obtain ⟨m, hm⟩ : ∃ m, m = (a + b) / 2 := ⟨_, rfl⟩
    have hm2 : ((a : Int) + b).tdiv 2 = m := by rw [Int.tdiv_eq_ediv_of_nonneg (by omega)]; omega
    have hms : m < s.length := by omega
    have hgm : s[m]? = some (s.getD m 0) := by simp [List.getD, List.getElem?_eq_getElem hms]
    have hc : (a : Int) < b := by omega
    have hpm := hp (s.getD m 0)
    have hgv : g m = pr (s.getD m 0) := by rw [← hg]
    rw [show b - a = (b - a - 1) + 1 by omega, bsF, if_pos h, ← hm, hgv] at h3
    have e1 := bsF_more g (b - a - 1) (m - a) a m (by omega) (by omega)
    have e2 := bsF_more g (b - a - 1) (b - (m + 1)) (m + 1) b (by omega) (by omega)
    generalize pr (s.getD m 0) = B at *
    generalize s.getD m 0 = x at *
    (repeat' (first
    | ((first | with_reducible (first | refine aw_seq ?_ | refine aw_region (aops_run ?_)) | (with_reducible refine aw_regionD (fun _ => .p) mixed ?_ (dops_run ?_); (· kernel_rfl)) | (with_reducible refine aw_regionD (fun _ => .r) mixed ?_ (dops_run ?_); (· kernel_rfl)) | with_reducible (first | refine aw_condK ?_ | refine aw_skip ?_ | refine aw_ret ?_ | refine aw_exit ?_ | refine aw_label ?_ | refine aw_block ?_ | refine aw_scope ?_ | refine And.intro ?_ ?_)) <;> (try (simp (maxSteps := 1000000) (disch := first | exact dq | fail) only [go_sem, hc, hm2, hgm, decide_true, findM])))
    | (with_reducible (first | refine wantK_split (fun h => ?_) (fun h => ?_) | refine condK_split (fun h => ?_) (fun h => ?_) | refine pickV_split (fun h => ?_) (fun h => ?_)) <;> (try (simp (maxSteps := 1000000) (disch := first | exact dq | fail) only [go_sem] at h)) <;> (try (simp (maxSteps := 1000000) (disch := first | exact dq | fail) only [go_sem, h, hc, hm2, hgm, decide_true, findM])))))
    all_goals (try omega)
    unfold findM at hpm
    ((first | with_reducible refine left_callMs [0, 1, 2] (hpm) ?_ ?_ | with_reducible refine leftD_callMs [0, 1, 2] rfl (hpm) ?_ ?_ | with_reducible refine leftD_callRs [0, 1, 2] (by decide) (hpm) ?_ ?_); (· (simp (maxSteps := 1000000) (disch := first | exact dq | fail) only [go_sem])); try (simp (maxSteps := 1000000) (disch := first | exact dq | fail) only [go_sem]))
    cases B with
    | true =>
      rw [if_pos rfl] at h3
      (repeat' (first
    | ((first | with_reducible (first | refine aw_seq ?_ | refine aw_region (aops_run ?_)) | (with_reducible refine aw_regionD (fun _ => .p) mixed ?_ (dops_run ?_); (· kernel_rfl)) | (with_reducible refine aw_regionD (fun _ => .r) mixed ?_ (dops_run ?_); (· kernel_rfl)) | with_reducible (first | refine aw_condK ?_ | refine aw_skip ?_ | refine aw_ret ?_ | refine aw_exit ?_ | refine aw_label ?_ | refine aw_block ?_ | refine aw_scope ?_ | refine And.intro ?_ ?_)) <;> (try (simp (maxSteps := 1000000) (disch := first | exact dq | fail) only [go_sem, findM])))
    | (with_reducible (first | refine wantK_split (fun h => ?_) (fun h => ?_) | refine condK_split (fun h => ?_) (fun h => ?_) | refine pickV_split (fun h => ?_) (fun h => ?_)) <;> (try (simp (maxSteps := 1000000) (disch := first | exact dq | fail) only [go_sem] at h)) <;> (try (simp (maxSteps := 1000000) (disch := first | exact dq | fail) only [go_sem, h, findM])))))
      all_goals (try omega)
      refine ⟨(a, m), ⟨by dsimp only; omega, by dsimp only; omega, by dsimp only; rw [← e1]; exact h3⟩, wk_by [0, 1, 2] ?_, by dsimp only; omega⟩
      (simp (maxSteps := 1000000) (disch := first | exact dq | fail) only [go_sem, findM])
    | false =>
      rw [if_neg (by decide)] at h3
      (repeat' (first
    | ((first | with_reducible (first | refine aw_seq ?_ | refine aw_region (aops_run ?_)) | (with_reducible refine aw_regionD (fun _ => .p) mixed ?_ (dops_run ?_); (· kernel_rfl)) | (with_reducible refine aw_regionD (fun _ => .r) mixed ?_ (dops_run ?_); (· kernel_rfl)) | with_reducible (first | refine aw_condK ?_ | refine aw_skip ?_ | refine aw_ret ?_ | refine aw_exit ?_ | refine aw_label ?_ | refine aw_block ?_ | refine aw_scope ?_ | refine And.intro ?_ ?_)) <;> (try (simp (maxSteps := 1000000) (disch := first | exact dq | fail) only [go_sem, findM])))
    | (with_reducible (first | refine wantK_split (fun h => ?_) (fun h => ?_) | refine condK_split (fun h => ?_) (fun h => ?_) | refine pickV_split (fun h => ?_) (fun h => ?_)) <;> (try (simp (maxSteps := 1000000) (disch := first | exact dq | fail) only [go_sem] at h)) <;> (try (simp (maxSteps := 1000000) (disch := first | exact dq | fail) only [go_sem, h, findM])))))
      all_goals (try omega)
      refine ⟨(m + 1, b), ⟨by dsimp only; omega, by dsimp only; omega, by dsimp only; rw [← e2]; exact h3⟩, wk_by [0, 1, 2] ?_, by dsimp only; omega⟩
      (simp (maxSteps := 1000000) (disch := first | exact dq | fail) only [go_sem, findM])
  · have hc : ¬ ((a : Int) < b) := by omega
    have : bsF g (b - a) a b = a := by rw [show b - a = 0 by omega]; rfl
    rw [this] at h3
    rw [← h3]
    (repeat' (first
    | ((first | with_reducible (first | refine aw_seq ?_ | refine aw_region (aops_run ?_)) | (with_reducible refine aw_regionD (fun _ => .p) mixed ?_ (dops_run ?_); (· kernel_rfl)) | (with_reducible refine aw_regionD (fun _ => .r) mixed ?_ (dops_run ?_); (· kernel_rfl)) | with_reducible (first | refine aw_condK ?_ | refine aw_skip ?_ | refine aw_ret ?_ | refine aw_exit ?_ | refine aw_label ?_ | refine aw_block ?_ | refine aw_scope ?_ | refine And.intro ?_ ?_)) <;> (try (simp (maxSteps := 1000000) (disch := first | exact dq | fail) only [go_sem, hc, decide_false, findM])))
    | (with_reducible (first | refine wantK_split (fun h => ?_) (fun h => ?_) | refine condK_split (fun h => ?_) (fun h => ?_) | refine pickV_split (fun h => ?_) (fun h => ?_)) <;> (try (simp (maxSteps := 1000000) (disch := first | exact dq | fail) only [go_sem] at h)) <;> (try (simp (maxSteps := 1000000) (disch := first | exact dq | fail) only [go_sem, h, hc, decide_false, findM])))))
    all_goals (try omega)
    all_goals (refine fin_k [0, 1, 2] ?_ ; (simp (maxSteps := 1000000) (disch := first | exact dq | fail) only [go_sem, findM]))
theorem bsL_le (f : Int → Bool) (s : List Int) : bsL f s ≤ s.length := (bsF_le _ s.length 0 s.length (Nat.zero_le _)).2
theorem Find_spec (l s p : List Int) (hl : l.length ≤ 1000000) (hp : p.length ≤ 1000000) (hs : s.length ≤ 1000000) :
    PCalls Try.prog 22 [inl l, inl s, inl p] (.tup [.int .i64 (bsL (isF true l p) s), .int .i64 (max (bsL (isF true l p) s) (bsL (isF false l p) s) : Nat)]) := by
  have h2 := first_spec 44 (isF true l p) l p s (fun i => is2_spec l p i hl hp) hs
  have h3 := first_spec 46 (isF false l p) l p s (fun i => is3_spec l p i hl hp) hs
  generalize bsL (isF true l p) s = a at *
  generalize bsL (isF false l p) s = b at *
  unfold findM at h2 h3
  have hmx : max (a : Int) b = ((max a b : Nat) : Int) := by omega
  refine PCalls.of_aw Try.func22 rfl (by unfold Callable; kernel_rfl) (by kernel_rfl) (by simp [Try.ntmps22]) ?_; rw [Try.ntmps22, Try.results22]; (simp (maxSteps := 1000000) (disch := first | exact dq | fail) only [go_sem])
  (repeat' (first
    | ((first | with_reducible (first | refine aw_seq ?_ | refine aw_region (aops_run ?_)) | (with_reducible refine aw_regionD (fun _ => .p) mixed ?_ (dops_run ?_); (· kernel_rfl)) | (with_reducible refine aw_regionD (fun _ => .r) mixed ?_ (dops_run ?_); (· kernel_rfl)) | with_reducible (first | refine aw_condK ?_ | refine aw_skip ?_ | refine aw_ret ?_ | refine aw_exit ?_ | refine aw_label ?_ | refine aw_block ?_ | refine aw_scope ?_ | refine And.intro ?_ ?_)) <;> (try (simp (maxSteps := 1000000) (disch := first | exact dq | fail) only [go_sem])))
    | (with_reducible (first | refine wantK_split (fun h => ?_) (fun h => ?_) | refine condK_split (fun h => ?_) (fun h => ?_) | refine pickV_split (fun h => ?_) (fun h => ?_)) <;> (try (simp (maxSteps := 1000000) (disch := first | exact dq | fail) only [go_sem] at h)) <;> (try (simp (maxSteps := 1000000) (disch := first | exact dq | fail) only [go_sem, h])))))
  ((first | with_reducible refine left_callMs [0, 1, 2] (h2) ?_ ?_ | with_reducible refine leftD_callMs [0, 1, 2] rfl (h2) ?_ ?_ | with_reducible refine leftD_callRs [0, 1, 2] (by decide) (h2) ?_ ?_); (· (simp (maxSteps := 1000000) (disch := first | exact dq | fail) only [go_sem])); try (simp (maxSteps := 1000000) (disch := first | exact dq | fail) only [go_sem]))
  (repeat' (first
    | ((first | with_reducible (first | refine aw_seq ?_ | refine aw_region (aops_run ?_)) | (with_reducible refine aw_regionD (fun _ => .p) mixed ?_ (dops_run ?_); (· kernel_rfl)) | (with_reducible refine aw_regionD (fun _ => .r) mixed ?_ (dops_run ?_); (· kernel_rfl)) | with_reducible (first | refine aw_condK ?_ | refine aw_skip ?_ | refine aw_ret ?_ | refine aw_exit ?_ | refine aw_label ?_ | refine aw_block ?_ | refine aw_scope ?_ | refine And.intro ?_ ?_)) <;> (try (simp (maxSteps := 1000000) (disch := first | exact dq | fail) only [go_sem])))
    | (with_reducible (first | refine wantK_split (fun h => ?_) (fun h => ?_) | refine condK_split (fun h => ?_) (fun h => ?_) | refine pickV_split (fun h => ?_) (fun h => ?_)) <;> (try (simp (maxSteps := 1000000) (disch := first | exact dq | fail) only [go_sem] at h)) <;> (try (simp (maxSteps := 1000000) (disch := first | exact dq | fail) only [go_sem, h])))))
  ((first | with_reducible refine left_callMs [0, 1, 2] (h3) ?_ ?_ | with_reducible refine leftD_callMs [0, 1, 2] rfl (h3) ?_ ?_ | with_reducible refine leftD_callRs [0, 1, 2] (by decide) (h3) ?_ ?_); (· (simp (maxSteps := 1000000) (disch := first | exact dq | fail) only [go_sem])); try (simp (maxSteps := 1000000) (disch := first | exact dq | fail) only [go_sem]))
  (repeat' (first
    | ((first | with_reducible (first | refine aw_seq ?_ | refine aw_region (aops_run ?_)) | (with_reducible refine aw_regionD (fun _ => .p) mixed ?_ (dops_run ?_); (· kernel_rfl)) | (with_reducible refine aw_regionD (fun _ => .r) mixed ?_ (dops_run ?_); (· kernel_rfl)) | with_reducible (first | refine aw_condK ?_ | refine aw_skip ?_ | refine aw_ret ?_ | refine aw_exit ?_ | refine aw_label ?_ | refine aw_block ?_ | refine aw_scope ?_ | refine And.intro ?_ ?_)) <;> (try (simp (maxSteps := 1000000) (disch := first | exact dq | fail) only [go_sem, hmx])))
    | (with_reducible (first | refine wantK_split (fun h => ?_) (fun h => ?_) | refine condK_split (fun h => ?_) (fun h => ?_) | refine pickV_split (fun h => ?_) (fun h => ?_)) <;> (try (simp (maxSteps := 1000000) (disch := first | exact dq | fail) only [go_sem] at h)) <;> (try (simp (maxSteps := 1000000) (disch := first | exact dq | fail) only [go_sem, h, hmx])))))
end Go.Proofs.Ytejhomoafhnipaa.AM
