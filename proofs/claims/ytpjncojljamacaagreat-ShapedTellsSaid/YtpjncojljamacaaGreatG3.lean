
/- Rows of numbers: what is told of them. No condition but lengths that fit. -/
import Derived.Test.YtpjncojljamacaaGreatGG
import Derived.Test.YtpjncojljamacaaGreatF14
set_option linter.unusedVariables false
set_option linter.unusedSimpArgs false
set_option maxRecDepth 20000
namespace Go.Proofs.YtpjncojljamacaaGreat.AM
open Go Go.RowKit

def vals (n w : Nat) (b : List Bool) : List Int := (List.range n).map fun i => (numN b (i * w) w : Int)
theorem vals_len (n w : Nat) (b : List Bool) : (vals n w b).length = n := by simp [vals]
theorem vals_get {n w : Nat} {b : List Bool} {i : Nat} (h : i < n) : (vals n w b).getD i 0 = (numN b (i * w) w : Int) := by
  simp [vals, List.getD, h]
theorem vals_pack {l : List Int} {w : Nat} (h : ∀ x ∈ l, 0 ≤ x ∧ x.toNat < 2 ^ w) : vals l.length w (rowOf l w) = l := by
  refine getD_ext (vals_len ..) (fun k hk => ?_)
  rw [vals_len] at hk
  rw [vals_get hk, rowOf_num l w hk]
  have e : l.getD k 0 = l[k] := by simp [List.getD, hk]
  obtain ⟨h0, h1⟩ := h (l.getD k 0) (by rw [e]; exact List.getElem_mem _)
  rw [Nat.mod_eq_of_lt h1]; omega
def atI (l : List Int) (i : Int) : Int := if 0 ≤ i ∧ i < l.length then l.getD i.toNat 0 else -1

theorem ILen_spec (n : Nat) (w : Int) (b : List Bool) : PCalls Tryz.prog 47 [intsV n w b] (.int .i64 n) := by
  refine PCalls.of_aw Tryz.func47 rfl (by unfold Callable; kernel_rfl) (by kernel_rfl) (by simp [Tryz.ntmps47]) ?_; rw [Tryz.ntmps47, Tryz.results47]; (simp (disch := first | exact dq | fail) only [go_sem])
  (repeat' first
  | ((with_reducible first | refine Nx.go ?_ | refine rP ?_ | refine rR ?_ | refine And.intro ?_ ?_ | fail) <;> try (simp (disch := first | exact dq | fail) only [go_sem]))
  | ((with_reducible refine Sp.go ?_ ?_) <;> intro h <;> (try (simp (disch := first | exact dq | fail) only [go_sem] at h)) <;> try (simp (disch := first | exact dq | fail) only [go_sem, h])) | fail)
theorem mul_in {k n w L : Nat} (h : k < n) (hb : L = n * w) : k * w + w ≤ L := by
  have : (k + 1) * w ≤ n * w := Nat.mul_le_mul_right w (by omega)
  rw [Nat.add_mul, Nat.one_mul] at this
  omega
theorem IGet_spec (n w : Nat) (b : List Bool) (i : Int) (hw : w ≤ 62) (hb : b.length = n * w) (hl : b.length ≤ 100000000000) :
    PCalls Tryz.prog 76 [intsV n w b, .int .i64 i] (.tup [.int .i64 (if 0 ≤ i ∧ i < n then (vals n w b).getD i.toNat 0 else 0), .int .i64 (if 0 ≤ i ∧ i < n then 0 else 13)]) := by
  by_cases hi : 0 ≤ i ∧ i < n
  · rw [if_pos hi, if_pos hi]
    obtain ⟨k, rfl⟩ : ∃ k : Nat, i = (k : Int) := ⟨i.toNat, by omega⟩
    have hk : k < n := by omega
    rw [Int.toNat_natCast, vals_get hk]
    have hm := mul_in hk hb
    have hN := Number_ok b (k * w) w hl (by omega) hm
    have hlt := numN_lt b (k * w) w
    have h62 : (2 : Nat) ^ w ≤ 2 ^ 62 := Nat.pow_le_pow_right (by decide) hw
    rw [Int.natCast_mul] at hN
    have hm' : (0 : Int) ≤ (k : Int) * (w : Int) ∧ (k : Int) * (w : Int) + w ≤ b.length := by rw [← Int.natCast_mul]; omega
    refine PCalls.of_aw Tryz.func76 rfl (by unfold Callable; kernel_rfl) (by kernel_rfl) (by simp [Tryz.ntmps76]) ?_; rw [Tryz.ntmps76, Tryz.results76]; (simp (disch := first | exact dq | fail) only [go_sem])
    (repeat' first
  | ((with_reducible first | refine Nx.go ?_ | refine rP ?_ | refine rR ?_ | refine And.intro ?_ ?_ | fail) <;> try (simp (disch := first | exact dq | fail) only [go_sem]))
  | ((with_reducible refine Sp.go ?_ ?_) <;> intro h <;> (try (simp (disch := first | exact dq | fail) only [go_sem] at h)) <;> try (simp (disch := first | exact dq | fail) only [go_sem, h])) | fail)
    all_goals (try omega)
    ((with_reducible first | apply left_callf | apply leftD_callf | apply leftF_callf); (· with_reducible rfl); (· (simp (disch := first | exact dq | fail) only [go_sem]) <;> rfl); (· exact hN); try (simp (disch := first | exact dq | fail) only [go_sem]))
    (repeat' first
  | ((with_reducible first | refine Nx.go ?_ | refine rP ?_ | refine rR ?_ | refine And.intro ?_ ?_ | fail) <;> try (simp (disch := first | exact dq | fail) only [go_sem]))
  | ((with_reducible refine Sp.go ?_ ?_) <;> intro h <;> (try (simp (disch := first | exact dq | fail) only [go_sem] at h)) <;> try (simp (disch := first | exact dq | fail) only [go_sem, h])) | fail)
  · rw [if_neg hi, if_neg hi]
    refine PCalls.of_aw Tryz.func76 rfl (by unfold Callable; kernel_rfl) (by kernel_rfl) (by simp [Tryz.ntmps76]) ?_; rw [Tryz.ntmps76, Tryz.results76]; (simp (disch := first | exact dq | fail) only [go_sem])
    (repeat' first
  | ((with_reducible first | refine Nx.go ?_ | refine rP ?_ | refine rR ?_ | refine And.intro ?_ ?_ | fail) <;> try (simp (disch := first | exact dq | fail) only [go_sem]))
  | ((with_reducible refine Sp.go ?_ ?_) <;> intro h <;> (try (simp (disch := first | exact dq | fail) only [go_sem] at h)) <;> try (simp (disch := first | exact dq | fail) only [go_sem, h])) | fail)
    all_goals (try omega)

theorem IAt_spec (n w : Nat) (b : List Bool) (i : Int) (hw : w ≤ 62) (hb : b.length = n * w) (hl : b.length ≤ 100000000000) :
    PCalls Tryz.prog 48 [intsV n w b, .int .i64 i] (.int .i64 (atI (vals n w b) i)) := by
  have hG := IGet_spec n w b i hw hb hl
  unfold atI
  rw [vals_len]
  by_cases hi : 0 ≤ i ∧ i < n
  · rw [if_pos hi, if_pos hi] at hG
    rw [if_pos hi]
    refine PCalls.of_aw Tryz.func48 rfl (by unfold Callable; kernel_rfl) (by kernel_rfl) (by simp [Tryz.ntmps48]) ?_; rw [Tryz.ntmps48, Tryz.results48]; (simp (disch := first | exact dq | fail) only [go_sem])
    (repeat' first
  | ((with_reducible first | refine Nx.go ?_ | refine rP ?_ | refine rR ?_ | refine And.intro ?_ ?_ | fail) <;> try (simp (disch := first | exact dq | fail) only [go_sem]))
  | ((with_reducible refine Sp.go ?_ ?_) <;> intro h <;> (try (simp (disch := first | exact dq | fail) only [go_sem] at h)) <;> try (simp (disch := first | exact dq | fail) only [go_sem, h])) | fail)
    ((with_reducible first | apply left_callf | apply leftD_callf | apply leftF_callf); (· with_reducible rfl); (· (simp (disch := first | exact dq | fail) only [go_sem]) <;> rfl); (· exact hG); try (simp (disch := first | exact dq | fail) only [go_sem]))
    (repeat' first
  | ((with_reducible first | refine Nx.go ?_ | refine rP ?_ | refine rR ?_ | refine And.intro ?_ ?_ | fail) <;> try (simp (disch := first | exact dq | fail) only [go_sem]))
  | ((with_reducible refine Sp.go ?_ ?_) <;> intro h <;> (try (simp (disch := first | exact dq | fail) only [go_sem] at h)) <;> try (simp (disch := first | exact dq | fail) only [go_sem, h])) | fail)
  · rw [if_neg hi, if_neg hi] at hG
    rw [if_neg hi]
    refine PCalls.of_aw Tryz.func48 rfl (by unfold Callable; kernel_rfl) (by kernel_rfl) (by simp [Tryz.ntmps48]) ?_; rw [Tryz.ntmps48, Tryz.results48]; (simp (disch := first | exact dq | fail) only [go_sem])
    (repeat' first
  | ((with_reducible first | refine Nx.go ?_ | refine rP ?_ | refine rR ?_ | refine And.intro ?_ ?_ | fail) <;> try (simp (disch := first | exact dq | fail) only [go_sem]))
  | ((with_reducible refine Sp.go ?_ ?_) <;> intro h <;> (try (simp (disch := first | exact dq | fail) only [go_sem] at h)) <;> try (simp (disch := first | exact dq | fail) only [go_sem, h])) | fail)
    ((with_reducible first | apply left_callf | apply leftD_callf | apply leftF_callf); (· with_reducible rfl); (· (simp (disch := first | exact dq | fail) only [go_sem]) <;> rfl); (· exact hG); try (simp (disch := first | exact dq | fail) only [go_sem]))
    (repeat' first
  | ((with_reducible first | refine Nx.go ?_ | refine rP ?_ | refine rR ?_ | refine And.intro ?_ ?_ | fail) <;> try (simp (disch := first | exact dq | fail) only [go_sem]))
  | ((with_reducible refine Sp.go ?_ ?_) <;> intro h <;> (try (simp (disch := first | exact dq | fail) only [go_sem] at h)) <;> try (simp (disch := first | exact dq | fail) only [go_sem, h])) | fail)

end Go.Proofs.YtpjncojljamacaaGreat.AM
