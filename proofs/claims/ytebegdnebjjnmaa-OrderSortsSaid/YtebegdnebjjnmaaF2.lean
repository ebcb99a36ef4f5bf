
/- Rows of bits: what is told of them. No condition but lengths that fit. -/
import Derived.Test.YtebegdnebjjnmaaF1
import Derived.Test.YtebegdnebjjnmaaM3
set_option linter.unusedVariables false
set_option linter.unusedSimpArgs false
set_option maxRecDepth 20000
namespace Go.Proofs.Ytebegdnebjjnmaa.AM
open Go Go.RowKit

/-- What an index outside is told. -/
def errAt (l : List Bool) (i : Int) : Int := if 0 ≤ i ∧ i < l.length then 0 else 13
end Go.Proofs.Ytebegdnebjjnmaa.AM
