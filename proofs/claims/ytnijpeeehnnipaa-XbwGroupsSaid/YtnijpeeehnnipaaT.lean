/- Of each type of the translation: cells, elements, zero values, fields. Written by wip/tools/types.py. No condition. -/
import Derived.Test.YtnijpeeehnnipaaAC
import Derived.Test.YtnijpeeehnnipaaProg
import Derived.KernelRfl
namespace Go.Proofs.Ytnijpeeehnnipaa.AM
open Go Go.RowKit

@[go_sem] theorem tAgg3 : tAgg Try.prog 3 = some none := by kernel_rfl
@[go_sem] theorem tSize3 : tSize Try.prog 3 = some 1 := by kernel_rfl
@[go_sem] theorem tKind3 : tKind Try.prog 3 = some (.int .i64) := by kernel_rfl
@[go_sem] theorem tZero3 : tZero Try.prog 3 = some (.int .i64 0) := by kernel_rfl
@[go_sem] theorem tAgg4 : tAgg Try.prog 4 = some none := by kernel_rfl
@[go_sem] theorem tSize4 : tSize Try.prog 4 = some 1 := by kernel_rfl
@[go_sem] theorem tKind4 : tKind Try.prog 4 = some .bool := by kernel_rfl
@[go_sem] theorem tZero4 : tZero Try.prog 4 = some (.bool false) := by kernel_rfl
@[go_sem] theorem tAgg5 : tAgg Try.prog 5 = some none := by kernel_rfl
@[go_sem] theorem tSize5 : tSize Try.prog 5 = some 1 := by kernel_rfl
@[go_sem] theorem tKind5 : tKind Try.prog 5 = some (.int .u8) := by kernel_rfl
@[go_sem] theorem tZero5 : tZero Try.prog 5 = some (.int .u8 0) := by kernel_rfl
@[go_sem] theorem tAgg9 : tAgg Try.prog 9 = some none := by kernel_rfl
@[go_sem] theorem tSize9 : tSize Try.prog 9 = some 1 := by kernel_rfl
@[go_sem] theorem tKind9 : tKind Try.prog 9 = some .str := by kernel_rfl
@[go_sem] theorem tZero9 : tZero Try.prog 9 = some (.string ⟨#[]⟩) := by kernel_rfl
@[go_sem] theorem tAgg22 : tAgg Try.prog 22 = some none := by kernel_rfl
@[go_sem] theorem tSize22 : tSize Try.prog 22 = some 1 := by kernel_rfl
@[go_sem] theorem tKind22 : tKind Try.prog 22 = some .slc := by kernel_rfl
@[go_sem] theorem tZero22 : tZero Try.prog 22 = some (.slice none 0 0) := by kernel_rfl
@[go_sem] theorem tElem22 : tElem Try.prog 22 = some ⟨9, 1, 16, (.string ⟨#[]⟩)⟩ := by kernel_rfl
@[go_sem] theorem tAgg23 : tAgg Try.prog 23 = some none := by kernel_rfl
@[go_sem] theorem tSize23 : tSize Try.prog 23 = some 1 := by kernel_rfl
@[go_sem] theorem tKind23 : tKind Try.prog 23 = some .slc := by kernel_rfl
@[go_sem] theorem tZero23 : tZero Try.prog 23 = some (.slice none 0 0) := by kernel_rfl
@[go_sem] theorem tElem23 : tElem Try.prog 23 = some ⟨53, 4, 40, (.agg #[(.int .i64 0), (.int .i64 0), (.int .i64 0), (.string ⟨#[]⟩)])⟩ := by kernel_rfl
@[go_sem] theorem tAgg25 : tAgg Try.prog 25 = some (some 2) := by kernel_rfl
@[go_sem] theorem tSize25 : tSize Try.prog 25 = some 2 := by kernel_rfl
@[go_sem] theorem tKind25 : tKind Try.prog 25 = some .oth := by kernel_rfl
@[go_sem] theorem tZero25 : tZero Try.prog 25 = some (.agg #[(.slice none 0 0), (.slice none 0 0)]) := by kernel_rfl
@[go_sem] theorem tPlaces25 : tPlaces Try.prog 25 = some [(0, 1), (1, 1)] := by kernel_rfl
@[go_sem] theorem tField25_0 : tField Try.prog 25 0 = some (0, 22) := by kernel_rfl
@[go_sem] theorem tField25_1 : tField Try.prog 25 1 = some (1, 23) := by kernel_rfl
@[go_sem] theorem tAgg28 : tAgg Try.prog 28 = some none := by kernel_rfl
@[go_sem] theorem tSize28 : tSize Try.prog 28 = some 1 := by kernel_rfl
@[go_sem] theorem tKind28 : tKind Try.prog 28 = some .slc := by kernel_rfl
@[go_sem] theorem tZero28 : tZero Try.prog 28 = some (.slice none 0 0) := by kernel_rfl
@[go_sem] theorem tElem28 : tElem Try.prog 28 = some ⟨3, 1, 8, (.int .i64 0)⟩ := by kernel_rfl
@[go_sem] theorem tAgg29 : tAgg Try.prog 29 = some none := by kernel_rfl
@[go_sem] theorem tSize29 : tSize Try.prog 29 = some 1 := by kernel_rfl
@[go_sem] theorem tKind29 : tKind Try.prog 29 = some .slc := by kernel_rfl
@[go_sem] theorem tZero29 : tZero Try.prog 29 = some (.slice none 0 0) := by kernel_rfl
@[go_sem] theorem tElem29 : tElem Try.prog 29 = some ⟨4, 1, 1, (.bool false)⟩ := by kernel_rfl
@[go_sem] theorem tAgg31 : tAgg Try.prog 31 = some (some 5) := by kernel_rfl
@[go_sem] theorem tSize31 : tSize Try.prog 31 = some 5 := by kernel_rfl
@[go_sem] theorem tKind31 : tKind Try.prog 31 = some .oth := by kernel_rfl
@[go_sem] theorem tZero31 : tZero Try.prog 31 = some (.agg #[(.slice none 0 0), (.slice none 0 0), (.slice none 0 0), (.slice none 0 0), (.slice none 0 0)]) := by kernel_rfl
@[go_sem] theorem tPlaces31 : tPlaces Try.prog 31 = some [(0, 1), (1, 1), (2, 1), (3, 1), (4, 1)] := by kernel_rfl
@[go_sem] theorem tField31_0 : tField Try.prog 31 0 = some (0, 28) := by kernel_rfl
@[go_sem] theorem tField31_1 : tField Try.prog 31 1 = some (1, 29) := by kernel_rfl
@[go_sem] theorem tField31_2 : tField Try.prog 31 2 = some (2, 28) := by kernel_rfl
@[go_sem] theorem tField31_3 : tField Try.prog 31 3 = some (3, 29) := by kernel_rfl
@[go_sem] theorem tField31_4 : tField Try.prog 31 4 = some (4, 28) := by kernel_rfl
@[go_sem] theorem tAgg32 : tAgg Try.prog 32 = some none := by kernel_rfl
@[go_sem] theorem tSize32 : tSize Try.prog 32 = some 1 := by kernel_rfl
@[go_sem] theorem tKind32 : tKind Try.prog 32 = some (.int .i64) := by kernel_rfl
@[go_sem] theorem tZero32 : tZero Try.prog 32 = some (.int .i64 0) := by kernel_rfl
@[go_sem] theorem tAgg47 : tAgg Try.prog 47 = some (some 2) := by kernel_rfl
@[go_sem] theorem tSize47 : tSize Try.prog 47 = some 2 := by kernel_rfl
@[go_sem] theorem tKind47 : tKind Try.prog 47 = some .oth := by kernel_rfl
@[go_sem] theorem tZero47 : tZero Try.prog 47 = some (.agg #[(.int .i64 0), (.int .i64 0)]) := by kernel_rfl
@[go_sem] theorem tPlaces47 : tPlaces Try.prog 47 = some [(0, 1), (1, 1)] := by kernel_rfl
@[go_sem] theorem tArr47 : tArr Try.prog 47 = some (2, 3, 1) := by kernel_rfl
@[go_sem] theorem tAgg53 : tAgg Try.prog 53 = some (some 4) := by kernel_rfl
@[go_sem] theorem tSize53 : tSize Try.prog 53 = some 4 := by kernel_rfl
@[go_sem] theorem tKind53 : tKind Try.prog 53 = some .oth := by kernel_rfl
@[go_sem] theorem tZero53 : tZero Try.prog 53 = some (.agg #[(.int .i64 0), (.int .i64 0), (.int .i64 0), (.string ⟨#[]⟩)]) := by kernel_rfl
@[go_sem] theorem tPlaces53 : tPlaces Try.prog 53 = some [(0, 1), (1, 1), (2, 1), (3, 1)] := by kernel_rfl
@[go_sem] theorem tField53_0 : tField Try.prog 53 0 = some (0, 3) := by kernel_rfl
@[go_sem] theorem tField53_1 : tField Try.prog 53 1 = some (1, 3) := by kernel_rfl
@[go_sem] theorem tField53_2 : tField Try.prog 53 2 = some (2, 3) := by kernel_rfl
@[go_sem] theorem tField53_3 : tField Try.prog 53 3 = some (3, 9) := by kernel_rfl
@[go_sem] theorem tAgg55 : tAgg Try.prog 55 = some none := by kernel_rfl
@[go_sem] theorem tSize55 : tSize Try.prog 55 = some 1 := by kernel_rfl
@[go_sem] theorem tKind55 : tKind Try.prog 55 = some .map := by kernel_rfl
@[go_sem] theorem tZero55 : tZero Try.prog 55 = some (.map none) := by kernel_rfl
@[go_sem] theorem tMapK55 : tMapK Try.prog 55 = some (.int .i64, 3) := by kernel_rfl
@[go_sem] theorem tAgg57 : tAgg Try.prog 57 = some none := by kernel_rfl
@[go_sem] theorem tSize57 : tSize Try.prog 57 = some 1 := by kernel_rfl
@[go_sem] theorem tKind57 : tKind Try.prog 57 = some .slc := by kernel_rfl
@[go_sem] theorem tZero57 : tZero Try.prog 57 = some (.slice none 0 0) := by kernel_rfl
@[go_sem] theorem tElem57 : tElem Try.prog 57 = some ⟨73, 5, 56, (.agg #[(.int .i64 0), (.int .i64 0), (.int .i64 0), (.string ⟨#[]⟩), (.string ⟨#[]⟩)])⟩ := by kernel_rfl
@[go_sem] theorem tAgg62 : tAgg Try.prog 62 = some none := by kernel_rfl
@[go_sem] theorem tSize62 : tSize Try.prog 62 = some 1 := by kernel_rfl
@[go_sem] theorem tKind62 : tKind Try.prog 62 = some .slc := by kernel_rfl
@[go_sem] theorem tZero62 : tZero Try.prog 62 = some (.slice none 0 0) := by kernel_rfl
@[go_sem] theorem tElem62 : tElem Try.prog 62 = some ⟨76, 5, 56, (.agg #[(.int .i64 0), (.int .i64 0), (.int .i64 0), (.string ⟨#[]⟩), (.string ⟨#[]⟩)])⟩ := by kernel_rfl
@[go_sem] theorem tAgg73 : tAgg Try.prog 73 = some (some 5) := by kernel_rfl
@[go_sem] theorem tSize73 : tSize Try.prog 73 = some 5 := by kernel_rfl
@[go_sem] theorem tKind73 : tKind Try.prog 73 = some .oth := by kernel_rfl
@[go_sem] theorem tZero73 : tZero Try.prog 73 = some (.agg #[(.int .i64 0), (.int .i64 0), (.int .i64 0), (.string ⟨#[]⟩), (.string ⟨#[]⟩)]) := by kernel_rfl
@[go_sem] theorem tPlaces73 : tPlaces Try.prog 73 = some [(0, 1), (1, 1), (2, 1), (3, 1), (4, 1)] := by kernel_rfl
@[go_sem] theorem tField73_0 : tField Try.prog 73 0 = some (0, 3) := by kernel_rfl
@[go_sem] theorem tField73_1 : tField Try.prog 73 1 = some (1, 3) := by kernel_rfl
@[go_sem] theorem tField73_2 : tField Try.prog 73 2 = some (2, 3) := by kernel_rfl
@[go_sem] theorem tField73_3 : tField Try.prog 73 3 = some (3, 9) := by kernel_rfl
@[go_sem] theorem tField73_4 : tField Try.prog 73 4 = some (4, 9) := by kernel_rfl
@[go_sem] theorem tAgg76 : tAgg Try.prog 76 = some (some 5) := by kernel_rfl
@[go_sem] theorem tSize76 : tSize Try.prog 76 = some 5 := by kernel_rfl
@[go_sem] theorem tKind76 : tKind Try.prog 76 = some .oth := by kernel_rfl
@[go_sem] theorem tZero76 : tZero Try.prog 76 = some (.agg #[(.int .i64 0), (.int .i64 0), (.int .i64 0), (.string ⟨#[]⟩), (.string ⟨#[]⟩)]) := by kernel_rfl
@[go_sem] theorem tPlaces76 : tPlaces Try.prog 76 = some [(0, 4), (4, 1)] := by kernel_rfl
@[go_sem] theorem tField76_0 : tField Try.prog 76 0 = some (0, 53) := by kernel_rfl
@[go_sem] theorem tField76_1 : tField Try.prog 76 1 = some (4, 9) := by kernel_rfl
@[go_sem] theorem tAgg79 : tAgg Try.prog 79 = some none := by kernel_rfl
@[go_sem] theorem tSize79 : tSize Try.prog 79 = some 1 := by kernel_rfl
@[go_sem] theorem tKind79 : tKind Try.prog 79 = some .oth := by kernel_rfl
@[go_sem] theorem tZero79 : tZero Try.prog 79 = some .nilFunc := by kernel_rfl
@[go_sem] theorem tAgg99 : tAgg Try.prog 99 = some none := by kernel_rfl
@[go_sem] theorem tSize99 : tSize Try.prog 99 = some 1 := by kernel_rfl
@[go_sem] theorem tKind99 : tKind Try.prog 99 = some .oth := by kernel_rfl
@[go_sem] theorem tZero99 : tZero Try.prog 99 = some .nilFunc := by kernel_rfl
@[go_sem] theorem tAgg109 : tAgg Try.prog 109 = some none := by kernel_rfl
@[go_sem] theorem tSize109 : tSize Try.prog 109 = some 1 := by kernel_rfl
@[go_sem] theorem tKind109 : tKind Try.prog 109 = some (.int .u64) := by kernel_rfl
@[go_sem] theorem tZero109 : tZero Try.prog 109 = some (.int .u64 0) := by kernel_rfl
@[go_sem] theorem tAgg111 : tAgg Try.prog 111 = some none := by kernel_rfl
@[go_sem] theorem tSize111 : tSize Try.prog 111 = some 1 := by kernel_rfl
@[go_sem] theorem tKind111 : tKind Try.prog 111 = some .slc := by kernel_rfl
@[go_sem] theorem tZero111 : tZero Try.prog 111 = some (.slice none 0 0) := by kernel_rfl
@[go_sem] theorem tElem111 : tElem Try.prog 111 = some ⟨5, 1, 1, (.int .u8 0)⟩ := by kernel_rfl
@[go_sem] theorem tAgg112 : tAgg Try.prog 112 = some (some 5) := by kernel_rfl
@[go_sem] theorem tSize112 : tSize Try.prog 112 = some 5 := by kernel_rfl
@[go_sem] theorem tKind112 : tKind Try.prog 112 = some .oth := by kernel_rfl
@[go_sem] theorem tZero112 : tZero Try.prog 112 = some (.agg #[(.string ⟨#[]⟩), (.string ⟨#[]⟩), (.string ⟨#[]⟩), (.string ⟨#[]⟩), (.string ⟨#[]⟩)]) := by kernel_rfl
@[go_sem] theorem tPlaces112 : tPlaces Try.prog 112 = some [(0, 1), (1, 1), (2, 1), (3, 1), (4, 1)] := by kernel_rfl
@[go_sem] theorem tArr112 : tArr Try.prog 112 = some (5, 9, 1) := by kernel_rfl
@[go_sem] theorem tAgg113 : tAgg Try.prog 113 = some (some 2) := by kernel_rfl
@[go_sem] theorem tSize113 : tSize Try.prog 113 = some 2 := by kernel_rfl
@[go_sem] theorem tKind113 : tKind Try.prog 113 = some .oth := by kernel_rfl
@[go_sem] theorem tZero113 : tZero Try.prog 113 = some (.agg #[(.string ⟨#[]⟩), (.string ⟨#[]⟩)]) := by kernel_rfl
@[go_sem] theorem tPlaces113 : tPlaces Try.prog 113 = some [(0, 1), (1, 1)] := by kernel_rfl
@[go_sem] theorem tArr113 : tArr Try.prog 113 = some (2, 9, 1) := by kernel_rfl
@[go_sem] theorem tAgg116 : tAgg Try.prog 116 = some none := by kernel_rfl
@[go_sem] theorem tSize116 : tSize Try.prog 116 = some 1 := by kernel_rfl
@[go_sem] theorem tKind116 : tKind Try.prog 116 = some (.int .i64) := by kernel_rfl
@[go_sem] theorem tZero116 : tZero Try.prog 116 = some (.int .i64 0) := by kernel_rfl
@[go_sem] theorem tAgg123 : tAgg Try.prog 123 = some none := by kernel_rfl
@[go_sem] theorem tSize123 : tSize Try.prog 123 = some 1 := by kernel_rfl
@[go_sem] theorem tKind123 : tKind Try.prog 123 = some (.int .u32) := by kernel_rfl
@[go_sem] theorem tZero123 : tZero Try.prog 123 = some (.int .u32 0) := by kernel_rfl
@[go_sem] theorem tAgg125 : tAgg Try.prog 125 = some none := by kernel_rfl
@[go_sem] theorem tSize125 : tSize Try.prog 125 = some 1 := by kernel_rfl
@[go_sem] theorem tKind125 : tKind Try.prog 125 = some (.int .u64) := by kernel_rfl
@[go_sem] theorem tZero125 : tZero Try.prog 125 = some (.int .u64 0) := by kernel_rfl
@[go_sem] theorem tAgg126 : tAgg Try.prog 126 = some none := by kernel_rfl
@[go_sem] theorem tSize126 : tSize Try.prog 126 = some 1 := by kernel_rfl
@[go_sem] theorem tKind126 : tKind Try.prog 126 = some (.int .u64) := by kernel_rfl
@[go_sem] theorem tZero126 : tZero Try.prog 126 = some (.int .u64 0) := by kernel_rfl
@[go_sem] theorem tAgg130 : tAgg Try.prog 130 = some none := by kernel_rfl
@[go_sem] theorem tSize130 : tSize Try.prog 130 = some 1 := by kernel_rfl
@[go_sem] theorem tKind130 : tKind Try.prog 130 = some .ptr := by kernel_rfl
@[go_sem] theorem tZero130 : tZero Try.prog 130 = some (.pointer none) := by kernel_rfl
theorem mixed : Try.prog.follows .mixedOrders = true := by kernel_rfl
section
variable {ops : List Oper} {i : Nat} {Q : Exit → St → Prop} {s : St}
theorem rP (h : run Try.prog ops ops (fun s l => leftD Try.prog (fun _ => .p) ops (Q .normal) s l) s) (hB : lexA (fun _ => .p) ops ops 0 (Array.replicate ops.length false) = true := by kernel_rfl) : aw Try.prog (.region i ops.toArray true) Q s := aw_regionD (fun _ => .p) mixed hB (dops_run h)
theorem rR (h : run Try.prog ops ops (fun s l => leftD Try.prog (fun _ => .r) ops (Q .normal) s l) s) (hB : lexA (fun _ => .r) ops ops 0 (Array.replicate ops.length false) = true := by kernel_rfl) : aw Try.prog (.region i ops.toArray true) Q s := aw_regionD (fun _ => .r) mixed hB (dops_run h)
theorem rW (h : run Try.prog ops ops (fun s l => leftD Try.prog (fun _ => .w) ops (Q .normal) s l) s) (hB : lexA (fun _ => .w) ops ops 0 (Array.replicate ops.length false) = true := by kernel_rfl) : aw Try.prog (.region i ops.toArray true) Q s := aw_regionD (fun _ => .w) mixed hB (dops_run h)
end

end Go.Proofs.Ytnijpeeehnnipaa.AM
