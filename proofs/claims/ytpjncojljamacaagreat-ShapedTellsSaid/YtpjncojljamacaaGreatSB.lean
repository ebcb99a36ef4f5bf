
/- slices.Backward of a row of levels (two rows of numbers each). Chapter 7: small functions. No condition but lengths that fit. Chapter 7: which of two suffixes comes first. Chapter 7: a level's end. Chapter 7: where the way down ends, and that ranks have the order of the numbers, plainly. Chapter 7: the order of suffixes as a list; slices.Backward; ranks in a row of one's own. -/
import Derived.RangeFuncBound
import Derived.RangeFuncCalls
import Derived.RangeFuncLeaves
import Derived.Shelf.Abstract
import Derived.Shelf.RegionOpen
import Derived.WalkKit
import Derived.OwnWalkIn
import Derived.TacticsInMore
import Derived.LoopNIn
import Derived.LoopIn
import Derived.Test.YtpjncojljamacaaGreatAD
import Derived.Test.YtpjncojljamacaaGreatGG
import Derived.Test.YtpjncojljamacaaGreatQC
import Derived.Test.YtpjncojljamacaaGreatSA

set_option linter.unusedVariables false
set_option linter.unusedSimpArgs false
set_option maxRecDepth 100000
namespace Go.Proofs.YtpjncojljamacaaGreat.AM
open Go Go.RowKit Go.Shelf

section
attribute [local go_sem] Oper.semAt_some
end

end Go.Proofs.YtpjncojljamacaaGreat.AM

set_option linter.unusedVariables false
set_option linter.unusedSimpArgs false
set_option maxRecDepth 20000
namespace Go.Proofs.YtpjncojljamacaaGreat.AM
open Go Go.RowKit

theorem cmp_spec (a b : Int) : PCalls Tryz.prog 41 [.int .i64 a, .int .i64 b] (.int .i64 (if a < b then -1 else if b < a then 1 else 0)) := by
  refine PCalls.of_aw Tryz.func41 rfl (by unfold Callable; kernel_rfl) (by kernel_rfl) (by simp [Tryz.ntmps41]) ?_; rw [Tryz.ntmps41, Tryz.results41]; (simp (disch := first | exact dq | fail) only [go_sem])
  (repeat' (first | refine Nx.go ?_ | fail) <;> try (simp (disch := first | exact dq | fail) only [go_sem]))
  ((with_reducible first | apply left_callf | apply leftD_callf | apply leftF_callf); (· with_reducible rfl); (· (simp (disch := first | exact dq | fail) only [go_sem]) <;> rfl); (· exact isNaNc_spec a); try (simp (disch := first | exact dq | fail) only [go_sem]))
  (repeat' (first | refine Nx.go ?_ | fail) <;> try (simp (disch := first | exact dq | fail) only [go_sem]))
  ((with_reducible first | apply left_callf | apply leftD_callf | apply leftF_callf); (· with_reducible rfl); (· (simp (disch := first | exact dq | fail) only [go_sem]) <;> rfl); (· exact isNaNc_spec b); try (simp (disch := first | exact dq | fail) only [go_sem]))
  (repeat' first
  | ((first | refine Nx.go ?_ | fail) <;> try (simp (disch := first | exact dq | fail) only [go_sem]))
  | ((with_reducible refine Sp.go ?_ ?_) <;> intro h <;> (try (simp (disch := first | exact dq | fail) only [go_sem] at h)) <;> try (simp (disch := first | exact dq | fail) only [go_sem, h])) | fail)
  · rw [if_pos h]
  · rename_i h1; rw [if_neg h1, if_pos h]
  · rename_i h1; rw [if_neg h1, if_neg h]
end Go.Proofs.YtpjncojljamacaaGreat.AM

set_option linter.unusedVariables false
set_option linter.unusedSimpArgs false
set_option maxRecDepth 20000
namespace Go.Proofs.YtpjncojljamacaaGreat.AM
open Go Go.RowKit

end Go.Proofs.YtpjncojljamacaaGreat.AM

set_option linter.unusedVariables false
set_option linter.unusedSimpArgs false
set_option maxRecDepth 20000
namespace Go.Proofs.YtpjncojljamacaaGreat.AM
open Go Go.RowKit

end Go.Proofs.YtpjncojljamacaaGreat.AM

set_option linter.unusedVariables false
set_option linter.unusedSimpArgs false
set_option maxRecDepth 20000
namespace Go.Proofs.YtpjncojljamacaaGreat.AM
open Go Go.RowKit

end Go.Proofs.YtpjncojljamacaaGreat.AM

set_option linter.unusedVariables false
set_option linter.unusedSimpArgs false
set_option maxRecDepth 20000
namespace Go.Proofs.YtpjncojljamacaaGreat.AM
open Go Go.RowKit

end Go.Proofs.YtpjncojljamacaaGreat.AM
