/- Of each type of the translation: cells, elements, zero values, fields. Written by wip/tools/types.py. No condition. -/
import Derived.Test.YtpjncojljamacaaAC
import Derived.Test.YtpjncojljamacaaProg
import Derived.KernelRfl
namespace Go.Proofs.Ytpjncojljamacaa.AM
open Go Go.RowKit

@[go_sem] theorem tAgg3 : tAgg Try.prog 3 = some none := by kernel_rfl
@[go_sem] theorem tSize3 : tSize Try.prog 3 = some 1 := by kernel_rfl
@[go_sem] theorem tKind3 : tKind Try.prog 3 = some (.int .i64) := by kernel_rfl
@[go_sem] theorem tZero3 : tZero Try.prog 3 = some (.int .i64 0) := by kernel_rfl
@[go_sem] theorem tAgg4 : tAgg Try.prog 4 = some none := by kernel_rfl
@[go_sem] theorem tSize4 : tSize Try.prog 4 = some 1 := by kernel_rfl
@[go_sem] theorem tKind4 : tKind Try.prog 4 = some .bool := by kernel_rfl
@[go_sem] theorem tZero4 : tZero Try.prog 4 = some (.bool false) := by kernel_rfl
@[go_sem] theorem tAgg5 : tAgg Try.prog 5 = some none := by kernel_rfl
@[go_sem] theorem tSize5 : tSize Try.prog 5 = some 1 := by kernel_rfl
@[go_sem] theorem tKind5 : tKind Try.prog 5 = some (.int .u8) := by kernel_rfl
@[go_sem] theorem tZero5 : tZero Try.prog 5 = some (.int .u8 0) := by kernel_rfl
@[go_sem] theorem tAgg9 : tAgg Try.prog 9 = some none := by kernel_rfl
@[go_sem] theorem tSize9 : tSize Try.prog 9 = some 1 := by kernel_rfl
@[go_sem] theorem tKind9 : tKind Try.prog 9 = some .str := by kernel_rfl
@[go_sem] theorem tZero9 : tZero Try.prog 9 = some (.string ⟨#[]⟩) := by kernel_rfl
@[go_sem] theorem tAgg21 : tAgg Try.prog 21 = some none := by kernel_rfl
@[go_sem] theorem tSize21 : tSize Try.prog 21 = some 1 := by kernel_rfl
@[go_sem] theorem tKind21 : tKind Try.prog 21 = some (.int .i32) := by kernel_rfl
@[go_sem] theorem tZero21 : tZero Try.prog 21 = some (.int .i32 0) := by kernel_rfl
@[go_sem] theorem tAgg22 : tAgg Try.prog 22 = some none := by kernel_rfl
@[go_sem] theorem tSize22 : tSize Try.prog 22 = some 1 := by kernel_rfl
@[go_sem] theorem tKind22 : tKind Try.prog 22 = some .slc := by kernel_rfl
@[go_sem] theorem tZero22 : tZero Try.prog 22 = some (.slice none 0 0) := by kernel_rfl
@[go_sem] theorem tElem22 : tElem Try.prog 22 = some ⟨3, 1, 8, (.int .i64 0)⟩ := by kernel_rfl
@[go_sem] theorem tAgg24 : tAgg Try.prog 24 = some none := by kernel_rfl
@[go_sem] theorem tSize24 : tSize Try.prog 24 = some 1 := by kernel_rfl
@[go_sem] theorem tKind24 : tKind Try.prog 24 = some .slc := by kernel_rfl
@[go_sem] theorem tZero24 : tZero Try.prog 24 = some (.slice none 0 0) := by kernel_rfl
@[go_sem] theorem tElem24 : tElem Try.prog 24 = some ⟨9, 1, 16, (.string ⟨#[]⟩)⟩ := by kernel_rfl
@[go_sem] theorem tAgg27 : tAgg Try.prog 27 = some none := by kernel_rfl
@[go_sem] theorem tSize27 : tSize Try.prog 27 = some 1 := by kernel_rfl
@[go_sem] theorem tKind27 : tKind Try.prog 27 = some (.int .u64) := by kernel_rfl
@[go_sem] theorem tZero27 : tZero Try.prog 27 = some (.int .u64 0) := by kernel_rfl
@[go_sem] theorem tAgg30 : tAgg Try.prog 30 = some none := by kernel_rfl
@[go_sem] theorem tSize30 : tSize Try.prog 30 = some 1 := by kernel_rfl
@[go_sem] theorem tKind30 : tKind Try.prog 30 = some .map := by kernel_rfl
@[go_sem] theorem tZero30 : tZero Try.prog 30 = some (.map none) := by kernel_rfl
@[go_sem] theorem tMapK30 : tMapK Try.prog 30 = some (.str, 56) := by kernel_rfl
@[go_sem] theorem tAgg31 : tAgg Try.prog 31 = some none := by kernel_rfl
@[go_sem] theorem tSize31 : tSize Try.prog 31 = some 1 := by kernel_rfl
@[go_sem] theorem tKind31 : tKind Try.prog 31 = some .map := by kernel_rfl
@[go_sem] theorem tZero31 : tZero Try.prog 31 = some (.map none) := by kernel_rfl
@[go_sem] theorem tMapK31 : tMapK Try.prog 31 = some (.str, 3) := by kernel_rfl
@[go_sem] theorem tAgg33 : tAgg Try.prog 33 = some (some 5) := by kernel_rfl
@[go_sem] theorem tSize33 : tSize Try.prog 33 = some 5 := by kernel_rfl
@[go_sem] theorem tKind33 : tKind Try.prog 33 = some .oth := by kernel_rfl
@[go_sem] theorem tZero33 : tZero Try.prog 33 = some (.agg #[(.int .i64 0), (.int .i64 0), (.slice none 0 0), (.map none), (.map none)]) := by kernel_rfl
@[go_sem] theorem tPlaces33 : tPlaces Try.prog 33 = some [(0, 1), (1, 1), (2, 1), (3, 1), (4, 1)] := by kernel_rfl
@[go_sem] theorem tField33_0 : tField Try.prog 33 0 = some (0, 3) := by kernel_rfl
@[go_sem] theorem tField33_1 : tField Try.prog 33 1 = some (1, 3) := by kernel_rfl
@[go_sem] theorem tField33_2 : tField Try.prog 33 2 = some (2, 24) := by kernel_rfl
@[go_sem] theorem tField33_3 : tField Try.prog 33 3 = some (3, 30) := by kernel_rfl
@[go_sem] theorem tField33_4 : tField Try.prog 33 4 = some (4, 31) := by kernel_rfl
@[go_sem] theorem tAgg34 : tAgg Try.prog 34 = some none := by kernel_rfl
@[go_sem] theorem tSize34 : tSize Try.prog 34 = some 1 := by kernel_rfl
@[go_sem] theorem tKind34 : tKind Try.prog 34 = some (.int .i64) := by kernel_rfl
@[go_sem] theorem tZero34 : tZero Try.prog 34 = some (.int .i64 0) := by kernel_rfl
@[go_sem] theorem tAgg38 : tAgg Try.prog 38 = some none := by kernel_rfl
@[go_sem] theorem tSize38 : tSize Try.prog 38 = some 1 := by kernel_rfl
@[go_sem] theorem tKind38 : tKind Try.prog 38 = some .oth := by kernel_rfl
@[go_sem] theorem tZero38 : tZero Try.prog 38 = some .nilFunc := by kernel_rfl
@[go_sem] theorem tAgg45 : tAgg Try.prog 45 = some none := by kernel_rfl
@[go_sem] theorem tSize45 : tSize Try.prog 45 = some 1 := by kernel_rfl
@[go_sem] theorem tKind45 : tKind Try.prog 45 = some .map := by kernel_rfl
@[go_sem] theorem tZero45 : tZero Try.prog 45 = some (.map none) := by kernel_rfl
@[go_sem] theorem tMapK45 : tMapK Try.prog 45 = some (.str, 46) := by kernel_rfl
@[go_sem] theorem tAgg46 : tAgg Try.prog 46 = some none := by kernel_rfl
@[go_sem] theorem tSize46 : tSize Try.prog 46 = some 1 := by kernel_rfl
@[go_sem] theorem tKind46 : tKind Try.prog 46 = some .ptr := by kernel_rfl
@[go_sem] theorem tZero46 : tZero Try.prog 46 = some (.pointer none) := by kernel_rfl
@[go_sem] theorem tAgg50 : tAgg Try.prog 50 = some none := by kernel_rfl
@[go_sem] theorem tSize50 : tSize Try.prog 50 = some 1 := by kernel_rfl
@[go_sem] theorem tKind50 : tKind Try.prog 50 = some .slc := by kernel_rfl
@[go_sem] theorem tZero50 : tZero Try.prog 50 = some (.slice none 0 0) := by kernel_rfl
@[go_sem] theorem tElem50 : tElem Try.prog 50 = some ⟨89, 1, 8, (.int .u64 0)⟩ := by kernel_rfl
@[go_sem] theorem tAgg52 : tAgg Try.prog 52 = some (some 2) := by kernel_rfl
@[go_sem] theorem tSize52 : tSize Try.prog 52 = some 2 := by kernel_rfl
@[go_sem] theorem tKind52 : tKind Try.prog 52 = some .oth := by kernel_rfl
@[go_sem] theorem tZero52 : tZero Try.prog 52 = some (.agg #[(.int .i64 0), (.slice none 0 0)]) := by kernel_rfl
@[go_sem] theorem tPlaces52 : tPlaces Try.prog 52 = some [(0, 1), (1, 1)] := by kernel_rfl
@[go_sem] theorem tField52_0 : tField Try.prog 52 0 = some (0, 3) := by kernel_rfl
@[go_sem] theorem tField52_1 : tField Try.prog 52 1 = some (1, 50) := by kernel_rfl
@[go_sem] theorem tAgg54 : tAgg Try.prog 54 = some (some 4) := by kernel_rfl
@[go_sem] theorem tSize54 : tSize Try.prog 54 = some 4 := by kernel_rfl
@[go_sem] theorem tKind54 : tKind Try.prog 54 = some .oth := by kernel_rfl
@[go_sem] theorem tZero54 : tZero Try.prog 54 = some (.agg #[(.int .i64 0), (.int .i64 0), (.int .i64 0), (.slice none 0 0)]) := by kernel_rfl
@[go_sem] theorem tPlaces54 : tPlaces Try.prog 54 = some [(0, 1), (1, 1), (2, 2)] := by kernel_rfl
@[go_sem] theorem tField54_0 : tField Try.prog 54 0 = some (0, 3) := by kernel_rfl
@[go_sem] theorem tField54_1 : tField Try.prog 54 1 = some (1, 3) := by kernel_rfl
@[go_sem] theorem tField54_2 : tField Try.prog 54 2 = some (2, 52) := by kernel_rfl
@[go_sem] theorem tAgg56 : tAgg Try.prog 56 = some (some 7) := by kernel_rfl
@[go_sem] theorem tSize56 : tSize Try.prog 56 = some 7 := by kernel_rfl
@[go_sem] theorem tKind56 : tKind Try.prog 56 = some .oth := by kernel_rfl
@[go_sem] theorem tZero56 : tZero Try.prog 56 = some (.agg #[(.int .i64 0), (.slice none 0 0), (.int .i64 0), (.int .i64 0), (.int .i64 0), (.int .i64 0), (.slice none 0 0)]) := by kernel_rfl
@[go_sem] theorem tPlaces56 : tPlaces Try.prog 56 = some [(0, 2), (2, 1), (3, 4)] := by kernel_rfl
@[go_sem] theorem tField56_0 : tField Try.prog 56 0 = some (0, 52) := by kernel_rfl
@[go_sem] theorem tField56_1 : tField Try.prog 56 1 = some (2, 3) := by kernel_rfl
@[go_sem] theorem tField56_2 : tField Try.prog 56 2 = some (3, 54) := by kernel_rfl
@[go_sem] theorem tAgg59 : tAgg Try.prog 59 = some none := by kernel_rfl
@[go_sem] theorem tSize59 : tSize Try.prog 59 = some 1 := by kernel_rfl
@[go_sem] theorem tKind59 : tKind Try.prog 59 = some .oth := by kernel_rfl
@[go_sem] theorem tZero59 : tZero Try.prog 59 = some .nilFunc := by kernel_rfl
@[go_sem] theorem tAgg62 : tAgg Try.prog 62 = some none := by kernel_rfl
@[go_sem] theorem tSize62 : tSize Try.prog 62 = some 1 := by kernel_rfl
@[go_sem] theorem tKind62 : tKind Try.prog 62 = some .slc := by kernel_rfl
@[go_sem] theorem tZero62 : tZero Try.prog 62 = some (.slice none 0 0) := by kernel_rfl
@[go_sem] theorem tElem62 : tElem Try.prog 62 = some ⟨64, 3, 40, (.agg #[(.int .i64 0), (.int .i64 0), (.slice none 0 0)])⟩ := by kernel_rfl
@[go_sem] theorem tAgg64 : tAgg Try.prog 64 = some (some 3) := by kernel_rfl
@[go_sem] theorem tSize64 : tSize Try.prog 64 = some 3 := by kernel_rfl
@[go_sem] theorem tKind64 : tKind Try.prog 64 = some .oth := by kernel_rfl
@[go_sem] theorem tZero64 : tZero Try.prog 64 = some (.agg #[(.int .i64 0), (.int .i64 0), (.slice none 0 0)]) := by kernel_rfl
@[go_sem] theorem tPlaces64 : tPlaces Try.prog 64 = some [(0, 1), (1, 1), (2, 1)] := by kernel_rfl
@[go_sem] theorem tField64_0 : tField Try.prog 64 0 = some (0, 3) := by kernel_rfl
@[go_sem] theorem tField64_1 : tField Try.prog 64 1 = some (1, 3) := by kernel_rfl
@[go_sem] theorem tField64_2 : tField Try.prog 64 2 = some (2, 22) := by kernel_rfl
@[go_sem] theorem tAgg66 : tAgg Try.prog 66 = some none := by kernel_rfl
@[go_sem] theorem tSize66 : tSize Try.prog 66 = some 1 := by kernel_rfl
@[go_sem] theorem tKind66 : tKind Try.prog 66 = some .oth := by kernel_rfl
@[go_sem] theorem tZero66 : tZero Try.prog 66 = some .nilFunc := by kernel_rfl
@[go_sem] theorem tAgg78 : tAgg Try.prog 78 = some none := by kernel_rfl
@[go_sem] theorem tSize78 : tSize Try.prog 78 = some 1 := by kernel_rfl
@[go_sem] theorem tKind78 : tKind Try.prog 78 = some .ptr := by kernel_rfl
@[go_sem] theorem tZero78 : tZero Try.prog 78 = some (.pointer none) := by kernel_rfl
@[go_sem] theorem tAgg79 : tAgg Try.prog 79 = some none := by kernel_rfl
@[go_sem] theorem tSize79 : tSize Try.prog 79 = some 1 := by kernel_rfl
@[go_sem] theorem tKind79 : tKind Try.prog 79 = some .slc := by kernel_rfl
@[go_sem] theorem tZero79 : tZero Try.prog 79 = some (.slice none 0 0) := by kernel_rfl
@[go_sem] theorem tElem79 : tElem Try.prog 79 = some ⟨5, 1, 1, (.int .u8 0)⟩ := by kernel_rfl
@[go_sem] theorem tAgg81 : tAgg Try.prog 81 = some (some 2) := by kernel_rfl
@[go_sem] theorem tSize81 : tSize Try.prog 81 = some 2 := by kernel_rfl
@[go_sem] theorem tKind81 : tKind Try.prog 81 = some .oth := by kernel_rfl
@[go_sem] theorem tZero81 : tZero Try.prog 81 = some (.agg #[(.pointer none), (.slice none 0 0)]) := by kernel_rfl
@[go_sem] theorem tPlaces81 : tPlaces Try.prog 81 = some [(0, 1), (1, 1)] := by kernel_rfl
@[go_sem] theorem tField81_0 : tField Try.prog 81 0 = some (0, 78) := by kernel_rfl
@[go_sem] theorem tField81_1 : tField Try.prog 81 1 = some (1, 79) := by kernel_rfl
@[go_sem] theorem tAgg88 : tAgg Try.prog 88 = some (some 2) := by kernel_rfl
@[go_sem] theorem tSize88 : tSize Try.prog 88 = some 2 := by kernel_rfl
@[go_sem] theorem tKind88 : tKind Try.prog 88 = some .oth := by kernel_rfl
@[go_sem] theorem tZero88 : tZero Try.prog 88 = some (.agg #[(.int .i64 0), (.slice none 0 0)]) := by kernel_rfl
@[go_sem] theorem tPlaces88 : tPlaces Try.prog 88 = some [(0, 1), (1, 1)] := by kernel_rfl
@[go_sem] theorem tField88_0 : tField Try.prog 88 0 = some (0, 3) := by kernel_rfl
@[go_sem] theorem tField88_1 : tField Try.prog 88 1 = some (1, 50) := by kernel_rfl
@[go_sem] theorem tAgg89 : tAgg Try.prog 89 = some none := by kernel_rfl
@[go_sem] theorem tSize89 : tSize Try.prog 89 = some 1 := by kernel_rfl
@[go_sem] theorem tKind89 : tKind Try.prog 89 = some (.int .u64) := by kernel_rfl
@[go_sem] theorem tZero89 : tZero Try.prog 89 = some (.int .u64 0) := by kernel_rfl
@[go_sem] theorem tAgg96 : tAgg Try.prog 96 = some none := by kernel_rfl
@[go_sem] theorem tSize96 : tSize Try.prog 96 = some 1 := by kernel_rfl
@[go_sem] theorem tKind96 : tKind Try.prog 96 = some .slc := by kernel_rfl
@[go_sem] theorem tZero96 : tZero Try.prog 96 = some (.slice none 0 0) := by kernel_rfl
@[go_sem] theorem tElem96 : tElem Try.prog 96 = some ⟨22, 1, 24, (.slice none 0 0)⟩ := by kernel_rfl
@[go_sem] theorem tAgg101 : tAgg Try.prog 101 = some none := by kernel_rfl
@[go_sem] theorem tSize101 : tSize Try.prog 101 = some 1 := by kernel_rfl
@[go_sem] theorem tKind101 : tKind Try.prog 101 = some (.int .u32) := by kernel_rfl
@[go_sem] theorem tZero101 : tZero Try.prog 101 = some (.int .u32 0) := by kernel_rfl
@[go_sem] theorem tAgg106 : tAgg Try.prog 106 = some none := by kernel_rfl
@[go_sem] theorem tSize106 : tSize Try.prog 106 = some 1 := by kernel_rfl
@[go_sem] theorem tKind106 : tKind Try.prog 106 = some .ptr := by kernel_rfl
@[go_sem] theorem tZero106 : tZero Try.prog 106 = some (.pointer none) := by kernel_rfl
@[go_sem] theorem tAgg111 : tAgg Try.prog 111 = some none := by kernel_rfl
@[go_sem] theorem tSize111 : tSize Try.prog 111 = some 1 := by kernel_rfl
@[go_sem] theorem tKind111 : tKind Try.prog 111 = some (.int .i64) := by kernel_rfl
@[go_sem] theorem tZero111 : tZero Try.prog 111 = some (.int .i64 0) := by kernel_rfl
@[go_sem] theorem tAgg125 : tAgg Try.prog 125 = some none := by kernel_rfl
@[go_sem] theorem tSize125 : tSize Try.prog 125 = some 1 := by kernel_rfl
@[go_sem] theorem tKind125 : tKind Try.prog 125 = some (.int .u64) := by kernel_rfl
@[go_sem] theorem tZero125 : tZero Try.prog 125 = some (.int .u64 0) := by kernel_rfl
@[go_sem] theorem tAgg129 : tAgg Try.prog 129 = some none := by kernel_rfl
@[go_sem] theorem tSize129 : tSize Try.prog 129 = some 1 := by kernel_rfl
@[go_sem] theorem tKind129 : tKind Try.prog 129 = some .ptr := by kernel_rfl
@[go_sem] theorem tZero129 : tZero Try.prog 129 = some (.pointer none) := by kernel_rfl
theorem mixed : Try.prog.follows .mixedOrders = true := by kernel_rfl
section
variable {ops : List Oper} {i : Nat} {Q : Exit → St → Prop} {s : St}
theorem rP (h : run Try.prog ops ops (fun s l => leftD Try.prog (fun _ => .p) ops (Q .normal) s l) s) (hB : lexA (fun _ => .p) ops ops 0 (Array.replicate ops.length false) = true := by kernel_rfl) : aw Try.prog (.region i ops.toArray true) Q s := aw_regionD (fun _ => .p) mixed hB (dops_run h)
theorem rR (h : run Try.prog ops ops (fun s l => leftD Try.prog (fun _ => .r) ops (Q .normal) s l) s) (hB : lexA (fun _ => .r) ops ops 0 (Array.replicate ops.length false) = true := by kernel_rfl) : aw Try.prog (.region i ops.toArray true) Q s := aw_regionD (fun _ => .r) mixed hB (dops_run h)
theorem rW (h : run Try.prog ops ops (fun s l => leftD Try.prog (fun _ => .w) ops (Q .normal) s l) s) (hB : lexA (fun _ => .w) ops ops 0 (Array.replicate ops.length false) = true := by kernel_rfl) : aw Try.prog (.region i ops.toArray true) Q s := aw_regionD (fun _ => .w) mixed hB (dops_run h)
end

end Go.Proofs.Ytpjncojljamacaa.AM
