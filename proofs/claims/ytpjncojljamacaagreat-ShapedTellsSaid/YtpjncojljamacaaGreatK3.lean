
/- The functions of chapter 3: counts and places of a row that is counted. No condition. -/
import Derived.Test.YtpjncojljamacaaGreatK2
set_option linter.unusedVariables false
set_option linter.unusedSimpArgs false
set_option maxRecDepth 20000
namespace Go.Proofs.YtpjncojljamacaaGreat.AM
open Go Go.RowKit

theorem RLen_spec (l : List Bool) : PCalls Tryz.prog 37 [rankV l] (.int .i64 l.length) := by
  refine PCalls.of_aw Tryz.func37 rfl (by unfold Callable; kernel_rfl) (by kernel_rfl) (by simp [Tryz.ntmps37]) ?_; rw [Tryz.ntmps37, Tryz.results37]; (simp (disch := first | exact dq | fail) only [go_sem])
  (repeat' first
  | ((with_reducible first | refine Nx.go ?_ | refine rP ?_ | refine rR ?_ | refine And.intro ?_ ?_ | fail) <;> try (simp (disch := first | exact dq | fail) only [go_sem]))
  | ((with_reducible refine Sp.go ?_ ?_) <;> intro h <;> (try (simp (disch := first | exact dq | fail) only [go_sem] at h)) <;> try (simp (disch := first | exact dq | fail) only [go_sem, h])) | fail)
  ((with_reducible first | apply left_callf | apply leftD_callf | apply leftF_callf); (· with_reducible rfl); (· (simp (disch := first | exact dq | fail) only [go_sem]) <;> rfl); (· exact Len_spec l); try (simp (disch := first | exact dq | fail) only [go_sem]))
  (repeat' first
  | ((with_reducible first | refine Nx.go ?_ | refine rP ?_ | refine rR ?_ | refine And.intro ?_ ?_ | fail) <;> try (simp (disch := first | exact dq | fail) only [go_sem]))
  | ((with_reducible refine Sp.go ?_ ?_) <;> intro h <;> (try (simp (disch := first | exact dq | fail) only [go_sem] at h)) <;> try (simp (disch := first | exact dq | fail) only [go_sem, h])) | fail)
theorem ROne_spec (l : List Bool) (i : Int) (hl : l.length ≤ 100000000000) : PCalls Tryz.prog 33 [rankV l, .int .i64 i] (.int .i64 (oneAt l i)) := by
  refine PCalls.of_aw Tryz.func33 rfl (by unfold Callable; kernel_rfl) (by kernel_rfl) (by simp [Tryz.ntmps33]) ?_; rw [Tryz.ntmps33, Tryz.results33]; (simp (disch := first | exact dq | fail) only [go_sem])
  (repeat' first
  | ((with_reducible first | refine Nx.go ?_ | refine rP ?_ | refine rR ?_ | refine And.intro ?_ ?_ | fail) <;> try (simp (disch := first | exact dq | fail) only [go_sem]))
  | ((with_reducible refine Sp.go ?_ ?_) <;> intro h <;> (try (simp (disch := first | exact dq | fail) only [go_sem] at h)) <;> try (simp (disch := first | exact dq | fail) only [go_sem, h])) | fail)
  ((with_reducible first | apply left_callf | apply leftD_callf | apply leftF_callf); (· with_reducible rfl); (· (simp (disch := first | exact dq | fail) only [go_sem]) <;> rfl); (· exact One_spec l i hl); try (simp (disch := first | exact dq | fail) only [go_sem]))
  (repeat' first
  | ((with_reducible first | refine Nx.go ?_ | refine rP ?_ | refine rR ?_ | refine And.intro ?_ ?_ | fail) <;> try (simp (disch := first | exact dq | fail) only [go_sem]))
  | ((with_reducible refine Sp.go ?_ ?_) <;> intro h <;> (try (simp (disch := first | exact dq | fail) only [go_sem] at h)) <;> try (simp (disch := first | exact dq | fail) only [go_sem, h])) | fail)

theorem clampN (n : Nat) (i : Int) : ∃ m : Nat, min (max i 0) (n : Int) = (m : Int) ∧ m ≤ n ∧ m = min i.toNat n := ⟨min i.toNat n, by omega, by omega, rfl⟩
theorem cnt_min (l : List Bool) (i : Nat) : cnt l (min i l.length) = cnt l i := by
  rcases Nat.le_total i l.length with h | h
  · rw [Nat.min_eq_left h]
  · rw [Nat.min_eq_right h, ← cntB_true, ← cntB_true, cntB_all l true h]

theorem Rank1_spec (l : List Bool) (i : Int) (hl : l.length ≤ 100000000) : PCalls Tryz.prog 29 [rankV l, .int .i64 i] (.int .i64 (cnt l i.toNat : Nat)) := by
  obtain ⟨m, hm, hml, hmi⟩ := clampN l.length i
  rw [← cnt_min, ← hmi]
  obtain ⟨hw, hrl, hrb, hv, hn⟩ := ah_facts l hl
  have haN : aN l = (l.length + 255) / 256 := rfl
  have hAt := IAt_spec (aN l) (aW l) (aR l) ((m / 256 : Nat) : Int) hw hrl (by omega)
  rw [hv] at hAt
  unfold atI at hAt
  rw [ahL_len] at hAt
  refine PCalls.of_aw Tryz.func29 rfl (by unfold Callable; kernel_rfl) (by kernel_rfl) (by simp [Tryz.ntmps29]) ?_; rw [Tryz.ntmps29, Tryz.results29]; (simp (disch := first | exact dq | fail) only [go_sem])
  (repeat' first
  | ((with_reducible first | refine Nx.go ?_ | refine rP ?_ | refine rR ?_ | refine And.intro ?_ ?_ | fail) <;> try (simp (disch := first | exact dq | fail) only [go_sem]))
  | ((with_reducible refine Sp.go ?_ ?_) <;> intro h <;> (try (simp (disch := first | exact dq | fail) only [go_sem] at h)) <;> try (simp (disch := first | exact dq | fail) only [go_sem, h])) | fail)
  ((with_reducible first | apply left_callf | apply leftD_callf | apply leftF_callf); (· with_reducible rfl); (· (simp (disch := first | exact dq | fail) only [go_sem]) <;> rfl); (· exact RLen_spec l); try (simp (disch := first | exact dq | fail) only [go_sem]))
  (repeat' first
  | ((with_reducible first | refine Nx.go ?_ | refine rP ?_ | refine rR ?_ | refine And.intro ?_ ?_ | fail) <;> try (simp (disch := first | exact dq | fail) only [go_sem, hm]))
  | ((with_reducible refine Sp.go ?_ ?_) <;> intro h <;> (try (simp (disch := first | exact dq | fail) only [go_sem] at h)) <;> try (simp (disch := first | exact dq | fail) only [go_sem, h, hm])) | fail)
  ((with_reducible first | apply left_callf | apply leftD_callf | apply leftF_callf); (· with_reducible rfl); (· (simp (disch := first | exact dq | fail) only [go_sem]) <;> rfl); (· exact ILen_spec (aN l) (aW l : Int) (aR l)); try (simp (disch := first | exact dq | fail) only [go_sem]))
  (repeat' first
  | ((with_reducible first | refine Nx.go ?_ | refine rP ?_ | refine rR ?_ | refine And.intro ?_ ?_ | fail) <;> try (simp (disch := first | exact dq | fail) only [go_sem]))
  | ((with_reducible refine Sp.go ?_ ?_) <;> intro h <;> (try (simp (disch := first | exact dq | fail) only [go_sem] at h)) <;> try (simp (disch := first | exact dq | fail) only [go_sem, h])) | fail)
  · rw [show m = l.length by omega]
  · rw [if_pos (by omega), Int.toNat_natCast, ahL_get l (by omega)] at hAt
    ((with_reducible first | apply left_callf | apply leftD_callf | apply leftF_callf); (· with_reducible rfl); (· (simp (disch := first | exact dq | fail) only [go_sem]) <;> rfl); (· exact hAt); try (simp (disch := first | exact dq | fail) only [go_sem]))
    (repeat' first
  | ((with_reducible first | refine Nx.go ?_ | refine rP ?_ | refine rR ?_ | refine And.intro ?_ ?_ | fail) <;> try (simp (disch := first | exact dq | fail) only [go_sem]))
  | ((with_reducible refine Sp.go ?_ ?_) <;> intro h <;> (try (simp (disch := first | exact dq | fail) only [go_sem] at h)) <;> try (simp (disch := first | exact dq | fail) only [go_sem, h])) | fail)
    refine aw_loop (α := Nat) (fun at0 => ⟨55, sl [(1, .iv (.int .i64 m)), (2, .mp 0 0), (6, .iv (.int .i64 (cnt l (min at0 m) : Nat))), (7, .iv (.int .i64 at0))],
      [.var 60 [.iv (.int .i64 l.length), .iv (.sl 1 (ws l)), .iv (.int .i64 (cnt l l.length : Nat)), .iv (.int .i64 (aN l : Nat)), .iv (.int .i64 (aW l : Nat)), .iv (.int .i64 (aR l).length), .iv (.sl 1 (ws (aR l)))]], 0⟩)
      (fun at0 => at0 < m + 64) (fun at0 => m + 64 - at0) (256 * (m / 256)) (wk_by [0] ?_) (by omega) ?_
    · rw [show min (256 * (m / 256)) m = 256 * (m / 256) by omega]
      (simp (disch := first | exact dq | fail) only [go_sem])
      congr 2; omega
    rintro at0 hj
    by_cases hlt : at0 < m
    · obtain ⟨w, hw1, hw2⟩ : ∃ w : Nat, min 64 ((m : Int) - (at0 : Int)) = (w : Int) ∧ w = min 64 (m - at0) := ⟨min 64 (m - at0), by omega, rfl⟩
      have hN := Number_ok l at0 w (by omega) (by omega) (by omega)
      have hpn := pc_num l at0 w (by omega)
      have hlt2 := numN_lt l at0 w
      have h64 : (2 : Nat) ^ w ≤ 2 ^ 64 := Nat.pow_le_pow_right (by decide) (by omega)
      rw [show at0 + w = min (at0 + 64) m by omega] at hpn
      rw [show min at0 m = at0 by omega]
      have hc1 := cnt_le l at0
      have hc2 := cnt_le l (min (at0 + 64) m)
      generalize numN l at0 w = x at *
      (repeat' first
  | ((with_reducible first | refine Nx.go ?_ | refine rP ?_ | refine rR ?_ | refine And.intro ?_ ?_ | fail) <;> try (simp (disch := first | exact dq | fail) only [go_sem, hw1]))
  | ((with_reducible refine Sp.go ?_ ?_) <;> intro h <;> (try (simp (disch := first | exact dq | fail) only [go_sem] at h)) <;> try (simp (disch := first | exact dq | fail) only [go_sem, h, hw1])) | fail)
      all_goals (try omega)
      ((with_reducible first | apply left_callf | apply leftD_callf | apply leftF_callf); (· with_reducible rfl); (· (simp (disch := first | exact dq | fail) only [go_sem]) <;> rfl); (· exact hN); try (simp (disch := first | exact dq | fail) only [go_sem]))
      (repeat' first
  | ((with_reducible first | refine Nx.go ?_ | refine rP ?_ | refine rR ?_ | refine And.intro ?_ ?_ | fail) <;> try (simp (disch := first | exact dq | fail) only [go_sem]))
  | ((with_reducible refine Sp.go ?_ ?_) <;> intro h <;> (try (simp (disch := first | exact dq | fail) only [go_sem] at h)) <;> try (simp (disch := first | exact dq | fail) only [go_sem, h])) | fail)
      refine aw_loop (α := Nat × Nat) (fun y => ⟨55, sl [(1, .iv (.int .i64 m)), (2, .mp 0 0), (6, .iv (.int .i64 y.1)), (7, .iv (.int .i64 at0)), (8, .iv (.int .u64 (y.2 : Int)))],
        [.var 60 [.iv (.int .i64 l.length), .iv (.sl 1 (ws l)), .iv (.int .i64 (cnt l l.length : Nat)), .iv (.int .i64 (aN l : Nat)), .iv (.int .i64 (aW l : Nat)), .iv (.int .i64 (aR l).length), .iv (.sl 1 (ws (aR l)))]], 0⟩)
        (fun y => y.1 + pc 64 y.2 = cnt l (min (at0 + 64) m) ∧ y.2 < 2 ^ 64) (fun y => pc 64 y.2) (cnt l at0, x) (wk_by [0] ?_) ⟨hpn.symm, by omega⟩ ?_
      · (simp (disch := first | exact dq | fail) only [go_sem])
      rintro ⟨n, z⟩ ⟨h1, h2⟩
      dsimp only at h1 h2
      rcases Nat.eq_zero_or_pos z with h0 | h0
      · subst h0
        rw [pc_zero] at h1
        (repeat' first
  | ((with_reducible first | refine Nx.go ?_ | refine rP ?_ | refine rR ?_ | refine And.intro ?_ ?_ | fail) <;> try (simp (disch := first | exact dq | fail) only [go_sem]))
  | ((with_reducible refine Sp.go ?_ ?_) <;> intro h <;> (try (simp (disch := first | exact dq | fail) only [go_sem] at h)) <;> try (simp (disch := first | exact dq | fail) only [go_sem, h])) | fail)
        all_goals (try omega)
        refine ⟨at0 + 64, by omega, wk_by [0] ?_, by omega⟩
        (simp (disch := first | exact dq | fail) only [go_sem])
        rw [← h1, Nat.add_zero]
      · have hcl := pc_clear 64 z (by omega) h2
        have hp := pc_pos 64 z (by omega) h2
        have hle : z &&& (z - 1) ≤ z := Nat.and_le_left
        have e : bitI .and .u64 (z : Int) ((z : Int) - 1) = ((z &&& (z - 1) : Nat) : Int) := by
          rw [show (z : Int) - 1 = ((z - 1 : Nat) : Int) by omega]
          exact bitand64 z (z - 1) (by omega) (by omega)
        (repeat' first
  | ((with_reducible first | refine Nx.go ?_ | refine rP ?_ | refine rR ?_ | refine And.intro ?_ ?_ | fail) <;> try (simp (disch := first | exact dq | fail) only [go_sem, e]))
  | ((with_reducible refine Sp.go ?_ ?_) <;> intro h <;> (try (simp (disch := first | exact dq | fail) only [go_sem] at h)) <;> try (simp (disch := first | exact dq | fail) only [go_sem, h, e])) | fail)
        all_goals (try omega)
        refine ⟨(n + 1, z &&& (z - 1)), ⟨by dsimp only; omega, by dsimp only; omega⟩, wk_by [0] ?_, by dsimp only; omega⟩
        (simp (disch := first | exact dq | fail) only [go_sem])
    · rw [show min at0 m = m by omega]
      (repeat' first
  | ((with_reducible first | refine Nx.go ?_ | refine rP ?_ | refine rR ?_ | refine And.intro ?_ ?_ | fail) <;> try (simp (disch := first | exact dq | fail) only [go_sem]))
  | ((with_reducible refine Sp.go ?_ ?_) <;> intro h <;> (try (simp (disch := first | exact dq | fail) only [go_sem] at h)) <;> try (simp (disch := first | exact dq | fail) only [go_sem, h])) | fail)
      all_goals (try omega)
end Go.Proofs.YtpjncojljamacaaGreat.AM
