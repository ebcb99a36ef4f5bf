
/- Chapter 11's document: its functions. No condition but lengths that fit. -/
import Derived.Test.YtnijpeeehnnipaaX1
import Derived.Test.YtnijpeeehnnipaaT
set_option linter.unusedVariables false
set_option linter.unusedSimpArgs false
set_option maxRecDepth 20000
namespace Go.Proofs.Ytnijpeeehnnipaa.AM
open Go Go.RowKit

def stV (l : Str) : IV := .str (bs l)
theorem point_spec (c : Int) : PCalls Try.prog 79 [.int .i64 c] (.bool (pointF c)) := by
  unfold pointF
  refine PCalls.of_aw Try.func79 rfl (by unfold Callable; kernel_rfl) (by kernel_rfl) (by simp [Try.ntmps79]) ?_; rw [Try.ntmps79, Try.results79]; (simp (disch := first | exact dq | fail) only [go_sem])
  (repeat' first
  | ((first | refine Nx.go ?_ | fail) <;> try (simp (disch := first | exact dq | fail) only [go_sem]))
  | ((with_reducible refine Sp.go ?_ ?_) <;> intro h <;> (try (simp (disch := first | exact dq | fail) only [go_sem] at h)) <;> try (simp (disch := first | exact dq | fail) only [go_sem, h])) | fail)
  all_goals (first | (exfalso; omega) | exact congrArg (fun b => some (IV.bool b)) (Bool.eq_iff_iff.2 (by simp only [Bool.and_eq_true, Bool.or_eq_true, decide_eq_true_eq, Bool.false_eq_true, Bool.not_eq_true', decide_eq_false_iff_not, true_iff, false_iff, iff_true, iff_false, eq_self]; omega)) | exact congrArg (fun b => AV.iv (IV.bool b)) (Bool.eq_iff_iff.2 (by simp only [Bool.and_eq_true, Bool.or_eq_true, decide_eq_true_eq, Bool.false_eq_true, Bool.not_eq_true', decide_eq_false_iff_not, true_iff, false_iff, iff_true, iff_false, eq_self]; omega)))
theorem Allowed_spec (c : Int) : PCalls Try.prog 55 [.int .i64 c] (.bool (allowF c)) := by
  unfold allowF
  refine PCalls.of_aw Try.func55 rfl (by unfold Callable; kernel_rfl) (by kernel_rfl) (by simp [Try.ntmps55]) ?_; rw [Try.ntmps55, Try.results55]; (simp (disch := first | exact dq | fail) only [go_sem])
  (repeat' first
  | ((first | refine Nx.go ?_ | fail) <;> try (simp (disch := first | exact dq | fail) only [go_sem]))
  | ((with_reducible refine Sp.go ?_ ?_) <;> intro h <;> (try (simp (disch := first | exact dq | fail) only [go_sem] at h)) <;> try (simp (disch := first | exact dq | fail) only [go_sem, h])) | fail)
  all_goals (first | (exfalso; omega) | exact congrArg (fun b => some (IV.bool b)) (Bool.eq_iff_iff.2 (by simp only [Bool.and_eq_true, Bool.or_eq_true, decide_eq_true_eq, Bool.false_eq_true, Bool.not_eq_true', decide_eq_false_iff_not, true_iff, false_iff, iff_true, iff_false, eq_self]; omega)) | exact congrArg (fun b => AV.iv (IV.bool b)) (Bool.eq_iff_iff.2 (by simp only [Bool.and_eq_true, Bool.or_eq_true, decide_eq_true_eq, Bool.false_eq_true, Bool.not_eq_true', decide_eq_false_iff_not, true_iff, false_iff, iff_true, iff_false, eq_self]; omega)))
theorem Space_spec (b : UInt8) : PCalls Try.prog 61 [.int .u8 b.toNat] (.bool (spaceF b)) := by
  unfold spaceF
  refine PCalls.of_aw Try.func61 rfl (by unfold Callable; kernel_rfl) (by kernel_rfl) (by simp [Try.ntmps61]) ?_; rw [Try.ntmps61, Try.results61]; (simp (disch := first | exact dq | fail) only [go_sem])
  (repeat' first
  | ((first | refine Nx.go ?_ | fail) <;> try (simp (disch := first | exact dq | fail) only [go_sem]))
  | ((with_reducible refine Sp.go ?_ ?_) <;> intro h <;> (try (simp (disch := first | exact dq | fail) only [go_sem] at h)) <;> try (simp (disch := first | exact dq | fail) only [go_sem, h])) | fail)
  all_goals (first | (exfalso; omega) | exact congrArg (fun b => some (IV.bool b)) (Bool.eq_iff_iff.2 (by simp only [Bool.and_eq_true, Bool.or_eq_true, decide_eq_true_eq, Bool.false_eq_true, Bool.not_eq_true', decide_eq_false_iff_not, true_iff, false_iff, iff_true, iff_false, eq_self]; omega)) | exact congrArg (fun b => AV.iv (IV.bool b)) (Bool.eq_iff_iff.2 (by simp only [Bool.and_eq_true, Bool.or_eq_true, decide_eq_true_eq, Bool.false_eq_true, Bool.not_eq_true', decide_eq_false_iff_not, true_iff, false_iff, iff_true, iff_false, eq_self]; omega)))
theorem SkipL_spec (s : Str) (a : Nat) (hs : s.length ≤ 1000000000000) (ha : a ≤ s.length) : PCalls Try.prog 41 [stV s, .int .i64 a] (.int .i64 (skipF s a)) := by
  unfold stV
  refine PCalls.of_aw Try.func41 rfl (by unfold Callable; kernel_rfl) (by kernel_rfl) (by simp [Try.ntmps41]) ?_; rw [Try.ntmps41, Try.results41]; (simp (disch := first | exact dq | fail) only [go_sem])
  (repeat' (first | refine Nx.go ?_ | fail) <;> try (simp (disch := first | exact dq | fail) only [go_sem]))
  refine aw_loop (α := Nat) (fun i => ⟨24, sl [(0, .iv (.str (bs s))), (1, .iv (.int .i64 i))], [], 0⟩)
    (fun i => i ≤ s.length ∧ skipF s i = skipF s a) (fun i => s.length - i) a (wk_by [] ?_) ⟨ha, rfl⟩ ?_
  · (simp (disch := first | exact dq | fail) only [go_sem])
  rintro i ⟨hi, he⟩
  rw [← he]
  by_cases g : i < s.length
  · have k1 : (i : Int) < s.length := by omega
    have hd : s.drop i = s.getD i 0 :: s.drop (i + 1) := by
      rw [List.drop_eq_getElem_cons g]
      simp [List.getD, List.getElem?_eq_getElem g]
    have hsk : skipF s i = if spaceF (s.getD i 0) = true then skipF s (i + 1) else i := by
      unfold skipF
      rw [hd, List.takeWhile_cons]
      split <;> simp <;> omega
    have hS := Space_spec (s.getD i 0)
    cases hb : spaceF (s.getD i 0) with
    | true =>
      rw [hb] at hS hsk
      (repeat' first
  | ((with_reducible first | refine Nx.go ?_ | refine And.intro ?_ ?_ | fail) <;> try (simp (disch := first | exact dq | fail) only [go_sem, k1, decide_true]))
  | ((with_reducible refine Sp.go ?_ ?_) <;> intro h <;> (try (simp (disch := first | exact dq | fail) only [go_sem] at h)) <;> try (simp (disch := first | exact dq | fail) only [go_sem, h, k1, decide_true])) | fail)
      all_goals (try omega)
      ((with_reducible first | apply left_callf | apply leftD_callf | apply leftF_callf); (· with_reducible rfl); (· (simp (disch := first | exact dq | fail) only [go_sem]) <;> rfl); (· exact hS); try (simp (disch := first | exact dq | fail) only [go_sem]))
      (repeat' (first | refine Nx.go ?_ | fail) <;> try (simp (disch := first | exact dq | fail) only [go_sem]))
      refine ⟨i + 1, ⟨by omega, ?_⟩, wk_by [] ?_, by omega⟩
      · rw [hsk, if_pos rfl]
      · (simp (disch := first | exact dq | fail) only [go_sem])
    | false =>
      rw [hb] at hS hsk
      rw [hsk, if_neg (by decide)]
      (repeat' first
  | ((with_reducible first | refine Nx.go ?_ | refine And.intro ?_ ?_ | fail) <;> try (simp (disch := first | exact dq | fail) only [go_sem, k1, decide_true]))
  | ((with_reducible refine Sp.go ?_ ?_) <;> intro h <;> (try (simp (disch := first | exact dq | fail) only [go_sem] at h)) <;> try (simp (disch := first | exact dq | fail) only [go_sem, h, k1, decide_true])) | fail)
      all_goals (try omega)
      ((with_reducible first | apply left_callf | apply leftD_callf | apply leftF_callf); (· with_reducible rfl); (· (simp (disch := first | exact dq | fail) only [go_sem]) <;> rfl); (· exact hS); try (simp (disch := first | exact dq | fail) only [go_sem]))
      (repeat' (first | refine Nx.go ?_ | fail) <;> try (simp (disch := first | exact dq | fail) only [go_sem]))
  · obtain rfl : i = s.length := by omega
    have k1 : ¬ (s.length : Int) < s.length := by omega
    have : skipF s s.length = s.length := by unfold skipF; simp
    rw [this]
    (repeat' first
  | ((first | refine Nx.go ?_ | fail) <;> try (simp (disch := first | exact dq | fail) only [go_sem, k1, decide_false]))
  | ((with_reducible refine Sp.go ?_ ?_) <;> intro h <;> (try (simp (disch := first | exact dq | fail) only [go_sem] at h)) <;> try (simp (disch := first | exact dq | fail) only [go_sem, h, k1, decide_false])) | fail)
    all_goals (try omega)
theorem Skip_spec (s : Str) (a : Nat) (hs : s.length ≤ 1000000) (ha : a ≤ s.length) : PCalls Try.prog 41 [stV s, .int .i64 a] (.int .i64 (skipF s a)) := SkipL_spec s a (by omega) ha
def nmG (s : Str) (a i : Nat) : Nat := if i = a then nameF s a else i + ((s.drop i).takeWhile (fun c => firstF c || moreF c)).length
theorem NameEnd_spec (s : Str) (a : Nat) (hs : s.length ≤ 1000000) (ha : a ≤ s.length) : PCalls Try.prog 58 [stV s, .int .i64 a] (.int .i64 (nameF s a)) := by
  unfold stV
  refine PCalls.of_aw Try.func58 rfl (by unfold Callable; kernel_rfl) (by kernel_rfl) (by simp [Try.ntmps58]) ?_; rw [Try.ntmps58, Try.results58]; (simp (disch := first | exact dq | fail) only [go_sem])
  (repeat' (first | refine Nx.go ?_ | fail) <;> try (simp (disch := first | exact dq | fail) only [go_sem]))
  refine aw_loop (α := Nat) (fun i => ⟨68, sl [(0, .iv (.str (bs s))), (1, .iv (.int .i64 a)), (5, .iv (.int .i64 i))], [], 0⟩)
    (fun i => a ≤ i ∧ i ≤ s.length ∧ nmG s a i = nameF s a) (fun i => s.length - i) a (wk_by [] ?_) ⟨Nat.le_refl _, ha, by unfold nmG; rw [if_pos rfl]⟩ ?_
  · (simp (disch := first | exact dq | fail) only [go_sem])
  rintro i ⟨hai, hi, he⟩
  rw [← he]
  by_cases g : i < s.length
  · have k1 : (i : Int) < s.length := by omega
    have hd : s.drop i = s.getD i 0 :: s.drop (i + 1) := by
      rw [List.drop_eq_getElem_cons g]
      simp [List.getD, List.getElem?_eq_getElem g]
    have hb256 := (s.getD i 0).toNat_lt
    have e2 : nmG s a (i + 1) = (i + 1) + ((s.drop (i + 1)).takeWhile (fun c => firstF c || moreF c)).length := by unfold nmG; rw [if_neg (by omega)]
    have hsk : nmG s a i = if (firstF (s.getD i 0) = true ∨ moreF (s.getD i 0) = true ∧ i ≠ a) then nmG s a (i + 1) else i := by
      rw [e2]
      by_cases e : i = a
      · subst e
        have e1 : nmG s i i = nameF s i := by unfold nmG; rw [if_pos rfl]
        rw [e1]
        unfold nameF
        rw [hd]
        simp only
        cases firstF (s.getD i 0) <;> simp
      · have e1 : nmG s a i = i + ((s.drop i).takeWhile (fun c => firstF c || moreF c)).length := by unfold nmG; rw [if_neg e]
        rw [e1, hd, List.takeWhile_cons]
        cases firstF (s.getD i 0) <;> cases moreF (s.getD i 0) <;> simp [e] <;> omega
    generalize hb : s.getD i 0 = b at *
    (iterate 10 all_goals try first
  | ((with_reducible first | refine Nx.go ?_ | refine And.intro ?_ ?_ | fail) <;> try (simp (disch := first | exact dq | fail) only [go_sem, k1, hb, decide_true]))
  | ((with_reducible refine Sp.go ?_ ?_) <;> intro h <;> (try (simp (disch := first | exact dq | fail) only [go_sem] at h)) <;> try (simp (disch := first | exact dq | fail) only [go_sem, h, k1, hb, decide_true])) | fail)
    all_goals (try omega)
    refine aw_cut ⟨68, sl [(0, .iv (.str (bs s))), (1, .iv (.int .i64 a)), (5, .iv (.int .i64 i)), (6, .iv (.int .u8 b.toNat)), (7, .iv (.bool (firstF b)))], [], 0⟩ ?_ ?_
    · (repeat' first
  | ((first | refine Nx.go ?_ | fail) <;> try (simp (disch := first | exact dq | fail) only [go_sem]))
  | ((with_reducible refine Sp.go ?_ ?_) <;> intro h <;> (try (simp (disch := first | exact dq | fail) only [go_sem] at h)) <;> try (simp (disch := first | exact dq | fail) only [go_sem, h])) | fail)
      all_goals (refine wk_by [] ?_; (simp (disch := first | exact dq | fail) only [go_sem]))
      all_goals (unfold firstF; (first | (exfalso; omega) | exact congrArg (fun b => some (IV.bool b)) (Bool.eq_iff_iff.2 (by simp only [Bool.and_eq_true, Bool.or_eq_true, decide_eq_true_eq, Bool.false_eq_true, Bool.not_eq_true', decide_eq_false_iff_not, true_iff, false_iff, iff_true, iff_false, eq_self]; omega)) | exact congrArg (fun b => AV.iv (IV.bool b)) (Bool.eq_iff_iff.2 (by simp only [Bool.and_eq_true, Bool.or_eq_true, decide_eq_true_eq, Bool.false_eq_true, Bool.not_eq_true', decide_eq_false_iff_not, true_iff, false_iff, iff_true, iff_false, eq_self]; omega))))
    refine aw_cut ⟨68, sl [(0, .iv (.str (bs s))), (1, .iv (.int .i64 a)), (5, .iv (.int .i64 i)), (7, .iv (.bool (firstF b))), (8, .iv (.bool (moreF b)))], [], 0⟩ ?_ ?_
    · (repeat' first
  | ((first | refine Nx.go ?_ | fail) <;> try (simp (disch := first | exact dq | fail) only [go_sem]))
  | ((with_reducible refine Sp.go ?_ ?_) <;> intro h <;> (try (simp (disch := first | exact dq | fail) only [go_sem] at h)) <;> try (simp (disch := first | exact dq | fail) only [go_sem, h])) | fail)
      all_goals (refine wk_by [] ?_; (simp (disch := first | exact dq | fail) only [go_sem]))
      all_goals (unfold moreF; (first | (exfalso; omega) | exact congrArg (fun b => some (IV.bool b)) (Bool.eq_iff_iff.2 (by simp only [Bool.and_eq_true, Bool.or_eq_true, decide_eq_true_eq, Bool.false_eq_true, Bool.not_eq_true', decide_eq_false_iff_not, true_iff, false_iff, iff_true, iff_false, eq_self]; omega)) | exact congrArg (fun b => AV.iv (IV.bool b)) (Bool.eq_iff_iff.2 (by simp only [Bool.and_eq_true, Bool.or_eq_true, decide_eq_true_eq, Bool.false_eq_true, Bool.not_eq_true', decide_eq_false_iff_not, true_iff, false_iff, iff_true, iff_false, eq_self]; omega))))
    cases hf : firstF b with
    | true =>
      rw [hf] at hsk
      (repeat' (first | refine Nx.go ?_ | fail) <;> try (simp (disch := first | exact dq | fail) only [go_sem]))
      refine ⟨i + 1, ⟨by omega, by omega, by rw [hsk, if_pos (.inl rfl)]⟩, wk_by [] ?_, by omega⟩
      (simp (disch := first | exact dq | fail) only [go_sem])
    | false =>
      cases hm : moreF b with
      | true =>
        rw [hf, hm] at hsk
        by_cases e : i = a
        · have e2 : (i : Int) = a := by omega
          rw [hsk, if_neg (fun h => by rcases h with h | h; cases h; exact h.2 e)]
          (repeat' (first | refine Nx.go ?_ | fail) <;> try (simp (disch := first | exact dq | fail) only [go_sem, e2, eq_self, decide_true]))
        · have e2 : ¬ (i : Int) = a := by omega
          (repeat' (first | refine Nx.go ?_ | fail) <;> try (simp (disch := first | exact dq | fail) only [go_sem, e2, decide_false]))
          refine ⟨i + 1, ⟨by omega, by omega, by rw [hsk, if_pos (.inr ⟨rfl, e⟩)]⟩, wk_by [] ?_, by omega⟩
          (simp (disch := first | exact dq | fail) only [go_sem])
      | false =>
        rw [hf, hm] at hsk
        rw [hsk, if_neg (fun h => by rcases h with h | h; cases h; cases h.1)]
        (repeat' (first | refine Nx.go ?_ | fail) <;> try (simp (disch := first | exact dq | fail) only [go_sem]))
  · obtain rfl : i = s.length := by omega
    have k1 : ¬ (s.length : Int) < s.length := by omega
    have : nmG s a s.length = s.length := by
      unfold nmG
      by_cases e : s.length = a
      · rw [if_pos e, ← e]; unfold nameF; simp
      · rw [if_neg e]; simp
    rw [this]
    (repeat' first
  | ((first | refine Nx.go ?_ | fail) <;> try (simp (disch := first | exact dq | fail) only [go_sem, k1, decide_false]))
  | ((with_reducible refine Sp.go ?_ ?_) <;> intro h <;> (try (simp (disch := first | exact dq | fail) only [go_sem] at h)) <;> try (simp (disch := first | exact dq | fail) only [go_sem, h, k1, decide_false])) | fail)
    all_goals (try omega)
end Go.Proofs.Ytnijpeeehnnipaa.AM
