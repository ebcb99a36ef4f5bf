
/- The functions of chapter 3: places; and the document's answers. No condition. -/
import Derived.Test.YtpjncojljamacaaK3
set_option linter.unusedVariables false
set_option linter.unusedSimpArgs false
set_option maxRecDepth 20000
namespace Go.Proofs.Ytpjncojljamacaa.AM
open Go Go.RowKit

theorem cntB_min (l : List Bool) (b : Bool) (i : Nat) : cntB l b (min i l.length) = cntB l b i := by
  rcases Nat.le_total i l.length with h | h
  · rw [Nat.min_eq_left h]
  · rw [Nat.min_eq_right h, cntB_all l b h]
theorem Rank0_spec (l : List Bool) (i : Int) (hl : l.length ≤ 100000000) : PCalls Try.prog 25 [rankV l, .int .i64 i] (.int .i64 (cntB l false i.toNat : Nat)) := by
  obtain ⟨m, hm, hml, hmi⟩ := clampN l.length i
  rw [← cntB_min, ← hmi]
  have hs := cntB_sum l hml
  have hR := Rank1_spec l (m : Int) hl
  rw [Int.toNat_natCast, ← cntB_true] at hR
  refine PCalls.of_aw Try.func25 rfl (by unfold Callable; kernel_rfl) (by kernel_rfl) (by simp [Try.ntmps25]) ?_; rw [Try.ntmps25, Try.results25]; (simp (disch := first | exact dq | fail) only [go_sem])
  (repeat' first
  | ((with_reducible first | refine Nx.go ?_ | refine rP ?_ | refine rR ?_ | refine And.intro ?_ ?_ | fail) <;> try (simp (disch := first | exact dq | fail) only [go_sem]))
  | ((with_reducible refine Sp.go ?_ ?_) <;> intro h <;> (try (simp (disch := first | exact dq | fail) only [go_sem] at h)) <;> try (simp (disch := first | exact dq | fail) only [go_sem, h])) | fail)
  ((with_reducible first | apply left_callf | apply leftD_callf | apply leftF_callf); (· with_reducible rfl); (· (simp (disch := first | exact dq | fail) only [go_sem]) <;> rfl); (· exact RLen_spec l); try (simp (disch := first | exact dq | fail) only [go_sem]))
  (repeat' first
  | ((with_reducible first | refine Nx.go ?_ | refine rP ?_ | refine rR ?_ | refine And.intro ?_ ?_ | fail) <;> try (simp (disch := first | exact dq | fail) only [go_sem, hm]))
  | ((with_reducible refine Sp.go ?_ ?_) <;> intro h <;> (try (simp (disch := first | exact dq | fail) only [go_sem] at h)) <;> try (simp (disch := first | exact dq | fail) only [go_sem, h, hm])) | fail)
  ((with_reducible first | apply left_callf | apply leftD_callf | apply leftF_callf); (· with_reducible rfl); (· (simp (disch := first | exact dq | fail) only [go_sem]) <;> rfl); (· exact hR); try (simp (disch := first | exact dq | fail) only [go_sem]))
  (repeat' first
  | ((with_reducible first | refine Nx.go ?_ | refine rP ?_ | refine rR ?_ | refine And.intro ?_ ?_ | fail) <;> try (simp (disch := first | exact dq | fail) only [go_sem]))
  | ((with_reducible refine Sp.go ?_ ?_) <;> intro h <;> (try (simp (disch := first | exact dq | fail) only [go_sem] at h)) <;> try (simp (disch := first | exact dq | fail) only [go_sem, h])) | fail)
  all_goals (try omega)
  congr 2
  omega

def rankM (l : List Bool) : MO := .var 56 [.iv (.int .i64 l.length), .iv (.sl 1 (ws l)), .iv (.int .i64 (cnt l l.length : Nat)), .iv (.int .i64 (aN l : Nat)), .iv (.int .i64 (aW l : Nat)), .iv (.int .i64 (aR l).length), .iv (.sl 1 (ws (aR l)))]
attribute [go_sem] rankM
def prevV (l : List Bool) (i : Int) : Int := if i < 0 then -1 else selB l true ((cnt l (min i l.length + 1).toNat : Nat) - 1)
end Go.Proofs.Ytpjncojljamacaa.AM
