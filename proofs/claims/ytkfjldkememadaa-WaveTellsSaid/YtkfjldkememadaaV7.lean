
/- Chapter 4: Rows, and Load. No condition but lengths that fit. -/
import Derived.Test.YtkfjldkememadaaV6
set_option linter.unusedVariables false
set_option linter.unusedSimpArgs false
set_option maxRecDepth 20000
namespace Go.Proofs.Ytkfjldkememadaa.AM
open Go Go.RowKit

@[go_sem] theorem zr_bits : List.mapM constIVcell [Value.int IntKind.i64 0, Value.slice none 0 0] = some [.int .i64 0, .sl 0 []] := rfl
@[go_sem] theorem zr_part : List.mapM constIVcell [Value.int IntKind.i64 0, Value.int IntKind.i64 0] = some [.int .i64 0, .int .i64 0] := rfl
@[go_sem] theorem zr_rank : List.mapM constIVcell [Value.int IntKind.i64 0, Value.slice none 0 0, Value.int IntKind.i64 0, Value.int IntKind.i64 0, Value.int IntKind.i64 0, Value.int IntKind.i64 0, Value.slice none 0 0] = some [.int .i64 0, .sl 0 [], .int .i64 0, .int .i64 0, .int .i64 0, .int .i64 0, .sl 0 []] := rfl
end Go.Proofs.Ytkfjldkememadaa.AM
