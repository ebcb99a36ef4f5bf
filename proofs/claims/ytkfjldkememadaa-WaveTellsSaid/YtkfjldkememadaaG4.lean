
/- Rows of numbers: read from bytes; the document's answers; the document's examples. No condition but lengths that fit. -/
import Derived.Test.YtkfjldkememadaaG3
import Derived.KernelRfl
set_option linter.unusedVariables false
set_option linter.unusedSimpArgs false
set_option maxRecDepth 20000
namespace Go.Proofs.Ytkfjldkememadaa.AM
open Go Go.RowKit

instance (n : Int) : Decidable (small n) := by unfold small; infer_instance
end Go.Proofs.Ytkfjldkememadaa.AM
