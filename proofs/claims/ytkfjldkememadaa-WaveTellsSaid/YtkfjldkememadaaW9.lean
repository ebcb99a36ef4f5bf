
/- The law WaveParts, as a call. No condition. -/
import Derived.Test.YtkfjldkememadaaW8
set_option linter.unusedVariables false
set_option linter.unusedSimpArgs false
set_option maxRecDepth 20000
namespace Go.Proofs.Ytkfjldkememadaa.AM
open Go Go.RowKit

end Go.Proofs.Ytkfjldkememadaa.AM
