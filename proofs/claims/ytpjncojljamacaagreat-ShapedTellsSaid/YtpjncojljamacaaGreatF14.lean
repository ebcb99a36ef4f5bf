
/- The document's put, on a row of the caller's own. No condition but lengths that fit. -/
import Derived.Test.YtpjncojljamacaaGreatFF
set_option linter.unusedVariables false
set_option linter.unusedSimpArgs false
set_option maxRecDepth 20000
namespace Go.Proofs.YtpjncojljamacaaGreat.AM
open Go Go.RowKit

def rowM (l : List Bool) : MO := .row true 4 1 (l.map .bool)
attribute [go_sem] rowM
end Go.Proofs.YtpjncojljamacaaGreat.AM
