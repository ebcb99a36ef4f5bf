
/- Rows of numbers: read from bytes; the document's answers; the document's examples. No condition but lengths that fit. -/
import Derived.Test.YtpjncojljamacaaGreatG3
import Derived.KernelRfl
set_option linter.unusedVariables false
set_option linter.unusedSimpArgs false
set_option maxRecDepth 20000
namespace Go.Proofs.YtpjncojljamacaaGreat.AM
open Go Go.RowKit

theorem sq_bad3 : Sq (.tup [.agg [.int .i64 0, .int .i64 0, .int .i64 0, .sl 0 []], .int .i64 10]) (.tup [intsV 0 0 [], .int .i64 10]) := Sq.tup ⟨Sq.agg ⟨Sq.refl _, Sq.refl _, Sq.refl _, Sq.nil 0 1, trivial⟩, Sq.refl _, trivial⟩
theorem mul_small {n w : Nat} (hn : n ≤ 16777216) (hw : w ≤ 62) : 0 ≤ (n : Int) * (w : Int) ∧ (n : Int) * (w : Int) ≤ 1040187392 := by
  have := Nat.mul_le_mul hn hw
  rw [← Int.natCast_mul]; omega
instance (n : Int) : Decidable (small n) := by unfold small; infer_instance
theorem tight4 : PCalls Tryz.prog 46 [inl [1, 3, 4, 9]] (.tup [intsV 4 4 (rowOf [1, 3, 4, 9] 4), .int .i64 0]) := by
  have := Tight_spec [1, 3, 4, 9] (by decide) (by decide)
  have e1 : widN (mostI [1, 3, 4, 9]) = 4 := by decide
  rw [e1] at this
  have e2 : packOk [1, 3, 4, 9] ((4 : Nat) : Int) = true := by decide
  rw [e2] at this
  exact this
theorem wid7 : PCalls Tryz.prog 75 [.int .i64 7] (.int .i64 3) := IWidth_spec 7 (by decide)
theorem wid8 : PCalls Tryz.prog 75 [.int .i64 8] (.int .i64 4) := IWidth_spec 8 (by decide)
theorem wid0 : PCalls Tryz.prog 75 [.int .i64 0] (.int .i64 0) := IWidth_spec 0 (by decide)
end Go.Proofs.YtpjncojljamacaaGreat.AM
