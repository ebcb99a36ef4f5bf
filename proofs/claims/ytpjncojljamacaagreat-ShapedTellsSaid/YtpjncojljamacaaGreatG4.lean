
/- Rows of numbers: read from bytes; the document's answers; the document's examples. No condition but lengths that fit. -/
import Derived.Test.YtpjncojljamacaaGreatG3
import Derived.KernelRfl
set_option linter.unusedVariables false
set_option linter.unusedSimpArgs false
set_option maxRecDepth 20000
namespace Go.Proofs.YtpjncojljamacaaGreat.AM
open Go Go.RowKit

instance (n : Int) : Decidable (small n) := by unfold small; infer_instance
end Go.Proofs.YtpjncojljamacaaGreat.AM
