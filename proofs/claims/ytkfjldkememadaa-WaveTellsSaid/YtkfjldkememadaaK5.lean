
/- Chapter 3: the document's answers, the rows that are drawn, the examples. No condition. -/
import Derived.Test.YtkfjldkememadaaK4
set_option linter.unusedVariables false
set_option linter.unusedSimpArgs false
set_option maxRecDepth 20000
namespace Go.Proofs.Ytkfjldkememadaa.AM
open Go Go.RowKit

end Go.Proofs.Ytkfjldkememadaa.AM
