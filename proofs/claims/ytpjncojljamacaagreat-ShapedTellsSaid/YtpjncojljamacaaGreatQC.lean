
/- slices.Compact, BinarySearch. No condition but lengths that fit. Chapter 6: Ranks. No condition but lengths that fit. Chapter 6: plain facts on ranks. No condition. Chapter 6: lists that rise. No condition. Chapter 6: plain facts on ranks of pairs. No condition. Chapter 6: Pairs. No condition but lengths that fit. Chapter 6: awake, few. No condition. Chapter 6: Inverse. No condition. -/
import Derived.Test.YtpjncojljamacaaGreatQB
import Derived.Test.YtpjncojljamacaaGreatOO

set_option linter.unusedVariables false
set_option linter.unusedSimpArgs false
set_option maxRecDepth 20000
namespace Go.Proofs.YtpjncojljamacaaGreat.AM
open Go Go.RowKit

theorem fdiv2 (z : Int) : z.fdiv (2 ^ min 1 64) = z / 2 := by
  rw [show ((2 : Int) ^ min 1 64) = 2 by decide, Int.fdiv_eq_ediv_of_nonneg _ (by decide)]
end Go.Proofs.YtpjncojljamacaaGreat.AM

set_option linter.unusedVariables false
set_option linter.unusedSimpArgs false
set_option maxRecDepth 20000
namespace Go.Proofs.YtpjncojljamacaaGreat.AM
open Go Go.RowKit

theorem aops_oneq {P : Program} {ops : List Oper} {Q : St → Prop} {s : St} {o : Oper} {rest : List Oper} (c : Cls) (v : AV) (M' : List MO) (hw : s.want ops o = some true) (he : eff P o s.ev s.M = some (c, v, M'))
    (h : aops P ops rest Q ({ s with M := M' }.put o.dst v)) : aops P ops (o :: rest) Q s := .inl ⟨c, _, .eff s c v M' hw he, h⟩
end Go.Proofs.YtpjncojljamacaaGreat.AM

set_option linter.unusedVariables false
set_option linter.unusedSimpArgs false
set_option maxRecDepth 20000
namespace Go.Proofs.YtpjncojljamacaaGreat.AM
open Go Go.RowKit

end Go.Proofs.YtpjncojljamacaaGreat.AM

set_option linter.unusedVariables false
set_option linter.unusedSimpArgs false
set_option maxRecDepth 20000
namespace Go.Proofs.YtpjncojljamacaaGreat.AM
open Go Go.RowKit

end Go.Proofs.YtpjncojljamacaaGreat.AM

set_option linter.unusedVariables false
set_option linter.unusedSimpArgs false
set_option maxRecDepth 20000
namespace Go.Proofs.YtpjncojljamacaaGreat.AM
open Go Go.RowKit

/-! ### the documents' count -/
/-! ### pairs as one number -/
/-! ### places by two keys, one behind the other -/
/-! ### how many different ones so far -/
end Go.Proofs.YtpjncojljamacaaGreat.AM

set_option linter.unusedVariables false
set_option linter.unusedSimpArgs false
set_option maxRecDepth 20000
namespace Go.Proofs.YtpjncojljamacaaGreat.AM
open Go Go.RowKit

section
variable (a b : List Int)
end
end Go.Proofs.YtpjncojljamacaaGreat.AM

set_option linter.unusedVariables false
set_option linter.unusedSimpArgs false
set_option maxRecDepth 20000
namespace Go.Proofs.YtpjncojljamacaaGreat.AM
open Go Go.RowKit

end Go.Proofs.YtpjncojljamacaaGreat.AM

set_option linter.unusedVariables false
set_option linter.unusedSimpArgs false
set_option maxRecDepth 20000
namespace Go.Proofs.YtpjncojljamacaaGreat.AM
open Go Go.RowKit

theorem Mul64_one (n : Nat) (hn : n ≤ 1000000000) : PCalls Tryz.prog 86 [.int .u64 1, .int .u64 (n : Int)] (.tup [.int .u64 0, .int .u64 (n : Int)]) := by
  have e1 : bitI .and .u64 (n : Int) 4294967295 = (n : Int) := by
    have := bitand64 n 4294967295 (by omega) (by omega)
    rw [show ((4294967295 : Nat) : Int) = 4294967295 from rfl] at this
    rw [this, show (4294967295 : Nat) = 2 ^ 32 - 1 from rfl, Nat.and_two_pow_sub_one_eq_mod, Nat.mod_eq_of_lt (by omega)]
  have e2 : bitI .and .u64 1 4294967295 = 1 := by decide
  have e3 : bitI .and .u64 0 4294967295 = 0 := by decide
  have s1 : (n : Int).fdiv (2 ^ min 32 64) = 0 := by
    rw [Int.fdiv_eq_ediv_of_nonneg _ (by decide), show ((2 : Int) ^ min 32 64) = 4294967296 by decide]
    exact Int.ediv_eq_zero_of_lt (by omega) (by omega)
  have s2 : Int.fdiv 1 (2 ^ min 32 64) = 0 := by decide
  have s3 : Int.fdiv 0 (2 ^ min 32 64) = 0 := by decide
  refine PCalls.of_aw Tryz.func86 rfl (by unfold Callable; kernel_rfl) (by kernel_rfl) (by simp [Tryz.ntmps86]) ?_; rw [Tryz.ntmps86, Tryz.results86]; (simp (disch := first | exact dq | fail) only [go_sem])
  (repeat' first
  | ((with_reducible first | refine Nx.go ?_ | refine rP ?_ | refine rR ?_ | refine And.intro ?_ ?_ | fail) <;> try (simp (disch := first | exact dq | fail) only [go_sem, e1, e2, e3, s1, s2, s3, Int.one_mul, Int.zero_mul]))
  | ((with_reducible refine Sp.go ?_ ?_) <;> intro h <;> (try (simp (disch := first | exact dq | fail) only [go_sem] at h)) <;> try (simp (disch := first | exact dq | fail) only [go_sem, h, e1, e2, e3, s1, s2, s3, Int.one_mul, Int.zero_mul])) | fail)
theorem Mul_one (n : Nat) (hn : n ≤ 1000000000) : PCalls Tryz.prog 67 [.int .u64 1, .int .u64 (n : Int)] (.tup [.int .u64 0, .int .u64 (n : Int)]) := by
  refine PCalls.of_aw Tryz.func67 rfl (by unfold Callable; kernel_rfl) (by kernel_rfl) (by simp [Tryz.ntmps67]) ?_; rw [Tryz.ntmps67, Tryz.results67]; (simp (disch := first | exact dq | fail) only [go_sem])
  (repeat' first
  | ((with_reducible first | refine Nx.go ?_ | refine rP ?_ | refine rR ?_ | refine And.intro ?_ ?_ | fail) <;> try (simp (disch := first | exact dq | fail) only [go_sem]))
  | ((with_reducible refine Sp.go ?_ ?_) <;> intro h <;> (try (simp (disch := first | exact dq | fail) only [go_sem] at h)) <;> try (simp (disch := first | exact dq | fail) only [go_sem, h])) | fail)
  ((with_reducible first | apply left_callf | apply leftD_callf | apply leftF_callf); (· with_reducible rfl); (· (simp (disch := first | exact dq | fail) only [go_sem]) <;> rfl); (· exact Mul64_one n hn); try (simp (disch := first | exact dq | fail) only [go_sem]))
  (repeat' first
  | ((with_reducible first | refine Nx.go ?_ | refine rP ?_ | refine rR ?_ | refine And.intro ?_ ?_ | fail) <;> try (simp (disch := first | exact dq | fail) only [go_sem]))
  | ((with_reducible refine Sp.go ?_ ?_) <;> intro h <;> (try (simp (disch := first | exact dq | fail) only [go_sem] at h)) <;> try (simp (disch := first | exact dq | fail) only [go_sem, h])) | fail)
theorem rowF_cons' (n : Nat) (f : Nat → Int) : rowF (n + 1) f = .int .i64 (f 0) :: rowF n (fun m => f (m + 1)) := by
  unfold rowF; rw [List.range_succ_eq_map, List.map_cons, List.map_map]; rfl
theorem rowF_two (n k : Nat) (hk : k ≤ n) : rowF n (fun m => if m < k then -1 else 0) = List.replicate k (.int .i64 (-1)) ++ List.replicate (n - k) (.int .i64 0) := by
  apply List.ext_getElem (by rw [rowF_len]; simp; omega)
  intro i h1 h2
  rw [rowF_len] at h1
  have e := rowF_get (fun m => if m < k then (-1 : Int) else 0) h1
  rw [List.getElem?_eq_getElem (by rw [rowF_len]; exact h1), Option.some.injEq] at e
  rw [e, List.getElem_append]
  split
  · rename_i h; rw [dif_pos (by simpa using h)]; simp
  · rename_i h; rw [dif_neg (by simpa using h)]; simp
theorem rep_step {n k j : Nat} (hj : j ≤ k) (hkj : k + j ≤ n) : List.take k (rowF n fun m => if m < k then -1 else 0) ++ (List.take j (List.take k (rowF n fun m => if m < k then -1 else 0)) ++ List.drop (k + j) (rowF n fun m => if m < k then -1 else 0)) = rowF n fun m => if m < k + j then -1 else 0 := by
  rw [rowF_two n k (by omega), rowF_two n (k + j) hkj]
  have h1 : List.take k (List.replicate k (IV.int .i64 (-1)) ++ List.replicate (n - k) (IV.int .i64 0)) = List.replicate k (IV.int .i64 (-1)) := List.take_left' (by simp)
  have h2 : List.drop (k + j) (List.replicate k (IV.int .i64 (-1)) ++ List.replicate (n - k) (IV.int .i64 0)) = List.replicate (n - (k + j)) (IV.int .i64 0) := by
    rw [List.drop_append, List.drop_of_length_le (by simp), List.drop_replicate, List.nil_append, List.length_replicate]
    congr 1; omega
  rw [h1, h2, List.take_replicate, Nat.min_eq_left hj, ← List.append_assoc, List.replicate_append_replicate]
theorem Repeat_spec (n : Nat) (hn : n ≤ 1000000) : MCalls Tryz.prog 56 [.msl 0 0 1 1, .iv (.int .i64 n)] [.row true 3 1 [.int .i64 (-1)]] (.msl 1 0 n n) [.row true 3 1 [.int .i64 (-1)], .row true 3 1 (rowF n fun _ => -1)] := by
  refine MCalls.of_aw Tryz.func56 rfl (by unfold Callable; kernel_rfl) (by kernel_rfl) (by simp [Tryz.ntmps56]) (by (simp (disch := first | exact dq | fail) only [go_sem])) ?_; rw [Tryz.ntmps56, Tryz.results56]; (simp (disch := first | exact dq | fail) only [go_sem])
  (repeat' first
  | ((with_reducible first | refine Nx.go ?_ | refine rP ?_ | refine rR ?_ | refine And.intro ?_ ?_ | fail) <;> try (simp (disch := first | exact dq | fail) only [go_sem]))
  | ((with_reducible refine Sp.go ?_ ?_) <;> intro h <;> (try (simp (disch := first | exact dq | fail) only [go_sem] at h)) <;> try (simp (disch := first | exact dq | fail) only [go_sem, h])) | fail)
  all_goals (try omega)
  ((with_reducible first | apply left_callf | apply leftD_callf | apply leftF_callf); (· with_reducible rfl); (· (simp (disch := first | exact dq | fail) only [go_sem]) <;> rfl); (· exact Mul_one n (by omega)); try (simp (disch := first | exact dq | fail) only [go_sem]))
  (repeat' first
  | ((with_reducible first | refine Nx.go ?_ | refine rP ?_ | refine rR ?_ | refine And.intro ?_ ?_ | fail) <;> try (simp (disch := first | exact dq | fail) only [go_sem]))
  | ((with_reducible refine Sp.go ?_ ?_) <;> intro h <;> (try (simp (disch := first | exact dq | fail) only [go_sem] at h)) <;> try (simp (disch := first | exact dq | fail) only [go_sem, h])) | fail)
  all_goals (try omega)
  refine aw_loop (α := Nat) (fun k => ⟨48, sl [(7, .msl 1 0 n n), (8, .iv (.int .i64 k))], [.row true 3 1 [.int .i64 (-1)], .row true 3 1 (rowF n fun m => if m < k then -1 else 0)], 1⟩)
    (fun k => k ≤ n ∧ min 1 n ≤ k) (fun k => n - k) (min 1 n) (wk_by [0, 2] ?_) (by omega) ?_
  · have e : rowF n (fun m => if m < min 1 n then -1 else 0) = List.take (min 1 n) [IV.int .i64 (-1)] ++ List.drop (min 1 n) (List.replicate n (IV.int .i64 0)) := by
      cases n with
      | zero => rfl
      | succ n =>
        rw [show min 1 (n + 1) = 1 by omega, List.take_succ_cons, List.take_zero, List.replicate_succ, List.drop_succ_cons, List.drop_zero, rowF_rep, rowF_cons']
        rfl
    rw [e]
    (simp (disch := first | exact dq | fail) only [go_sem])
  rintro k ⟨hk, hk0⟩
  have hl := rowF_len n (fun m => if m < k then -1 else 0)
  by_cases hlt : k < n
  · have hr := rep_step (n := n) (k := k) (j := min (min k n) (n - k)) (by omega) (by omega)
    (repeat' first
  | ((with_reducible first | refine Nx.go ?_ | refine rP ?_ | refine rR ?_ | refine And.intro ?_ ?_ | fail) <;> try (simp (disch := first | exact dq | fail) only [go_sem, hl]))
  | ((with_reducible refine Sp.go ?_ ?_) <;> intro h <;> (try (simp (disch := first | exact dq | fail) only [go_sem] at h)) <;> try (simp (disch := first | exact dq | fail) only [go_sem, h, hl])) | fail)
    all_goals (try omega)
    rw [hr]
    refine ⟨k + min (min k n) (n - k), by omega, wk_by [0, 1] ?_, by omega⟩
    (simp (disch := first | exact dq | fail) only [go_sem])
  · have : k = n := by omega
    subst this
    have e : rowF k (fun m => if m < k then -1 else 0) = rowF k (fun _ => -1) := rowF_congr (fun m hm => by rw [if_pos hm])
    have hl2 := rowF_len k (fun _ => -1)
    rw [e]
    (repeat' first
  | ((with_reducible first | refine Nx.go ?_ | refine rP ?_ | refine rR ?_ | refine And.intro ?_ ?_ | fail) <;> try (simp (disch := first | exact dq | fail) only [go_sem, hl2]))
  | ((with_reducible refine Sp.go ?_ ?_) <;> intro h <;> (try (simp (disch := first | exact dq | fail) only [go_sem] at h)) <;> try (simp (disch := first | exact dq | fail) only [go_sem, h, hl2])) | fail)
    all_goals (try omega)
    refine fin_k [0, 1] ?_
    (simp (disch := first | exact dq | fail) only [go_sem])
structure Pm (p : List Int) (t : Nat) : Prop where
  rng : ∀ j, j < t → 0 ≤ p.getD j 0 ∧ p.getD j 0 < p.length
  dif : ∀ j k, j < k → k < t → p.getD j 0 ≠ p.getD k 0
end Go.Proofs.YtpjncojljamacaaGreat.AM
