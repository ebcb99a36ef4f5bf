/- Of each type of the translation: cells, elements, zero values, fields. Written by wip/tools/types.py. No condition. -/
import Derived.Test.YtpjncojljamacaaGreatAC
import Derived.Test.YtpjncojljamacaaGreatProg
import Derived.KernelRfl
namespace Go.Proofs.YtpjncojljamacaaGreat.AM
open Go Go.RowKit

@[go_sem] theorem tAgg3 : tAgg Tryz.prog 3 = some none := by kernel_rfl
@[go_sem] theorem tSize3 : tSize Tryz.prog 3 = some 1 := by kernel_rfl
@[go_sem] theorem tKind3 : tKind Tryz.prog 3 = some (.int .i64) := by kernel_rfl
@[go_sem] theorem tZero3 : tZero Tryz.prog 3 = some (.int .i64 0) := by kernel_rfl
@[go_sem] theorem tAgg4 : tAgg Tryz.prog 4 = some none := by kernel_rfl
@[go_sem] theorem tSize4 : tSize Tryz.prog 4 = some 1 := by kernel_rfl
@[go_sem] theorem tKind4 : tKind Tryz.prog 4 = some .bool := by kernel_rfl
@[go_sem] theorem tZero4 : tZero Tryz.prog 4 = some (.bool false) := by kernel_rfl
@[go_sem] theorem tAgg5 : tAgg Tryz.prog 5 = some none := by kernel_rfl
@[go_sem] theorem tSize5 : tSize Tryz.prog 5 = some 1 := by kernel_rfl
@[go_sem] theorem tKind5 : tKind Tryz.prog 5 = some (.int .u8) := by kernel_rfl
@[go_sem] theorem tZero5 : tZero Tryz.prog 5 = some (.int .u8 0) := by kernel_rfl
@[go_sem] theorem tAgg9 : tAgg Tryz.prog 9 = some none := by kernel_rfl
@[go_sem] theorem tSize9 : tSize Tryz.prog 9 = some 1 := by kernel_rfl
@[go_sem] theorem tKind9 : tKind Tryz.prog 9 = some .str := by kernel_rfl
@[go_sem] theorem tZero9 : tZero Tryz.prog 9 = some (.string ⟨#[]⟩) := by kernel_rfl
@[go_sem] theorem tAgg21 : tAgg Tryz.prog 21 = some none := by kernel_rfl
@[go_sem] theorem tSize21 : tSize Tryz.prog 21 = some 1 := by kernel_rfl
@[go_sem] theorem tKind21 : tKind Tryz.prog 21 = some (.int .i32) := by kernel_rfl
@[go_sem] theorem tZero21 : tZero Tryz.prog 21 = some (.int .i32 0) := by kernel_rfl
@[go_sem] theorem tAgg22 : tAgg Tryz.prog 22 = some none := by kernel_rfl
@[go_sem] theorem tSize22 : tSize Tryz.prog 22 = some 1 := by kernel_rfl
@[go_sem] theorem tKind22 : tKind Tryz.prog 22 = some .slc := by kernel_rfl
@[go_sem] theorem tZero22 : tZero Tryz.prog 22 = some (.slice none 0 0) := by kernel_rfl
@[go_sem] theorem tElem22 : tElem Tryz.prog 22 = some ⟨3, 1, 8, (.int .i64 0)⟩ := by kernel_rfl
@[go_sem] theorem tAgg23 : tAgg Tryz.prog 23 = some (some 2) := by kernel_rfl
@[go_sem] theorem tSize23 : tSize Tryz.prog 23 = some 2 := by kernel_rfl
@[go_sem] theorem tKind23 : tKind Tryz.prog 23 = some .oth := by kernel_rfl
@[go_sem] theorem tZero23 : tZero Tryz.prog 23 = some (.agg #[(.int .i64 0), (.int .i64 0)]) := by kernel_rfl
@[go_sem] theorem tPlaces23 : tPlaces Tryz.prog 23 = some [(0, 1), (1, 1)] := by kernel_rfl
@[go_sem] theorem tArr23 : tArr Tryz.prog 23 = some (2, 3, 1) := by kernel_rfl
@[go_sem] theorem tAgg27 : tAgg Tryz.prog 27 = some none := by kernel_rfl
@[go_sem] theorem tSize27 : tSize Tryz.prog 27 = some 1 := by kernel_rfl
@[go_sem] theorem tKind27 : tKind Tryz.prog 27 = some .slc := by kernel_rfl
@[go_sem] theorem tZero27 : tZero Tryz.prog 27 = some (.slice none 0 0) := by kernel_rfl
@[go_sem] theorem tElem27 : tElem Tryz.prog 27 = some ⟨9, 1, 16, (.string ⟨#[]⟩)⟩ := by kernel_rfl
@[go_sem] theorem tAgg28 : tAgg Tryz.prog 28 = some none := by kernel_rfl
@[go_sem] theorem tSize28 : tSize Tryz.prog 28 = some 1 := by kernel_rfl
@[go_sem] theorem tKind28 : tKind Tryz.prog 28 = some .map := by kernel_rfl
@[go_sem] theorem tZero28 : tZero Tryz.prog 28 = some (.map none) := by kernel_rfl
@[go_sem] theorem tMapK28 : tMapK Tryz.prog 28 = some (.str, 60) := by kernel_rfl
@[go_sem] theorem tAgg29 : tAgg Tryz.prog 29 = some none := by kernel_rfl
@[go_sem] theorem tSize29 : tSize Tryz.prog 29 = some 1 := by kernel_rfl
@[go_sem] theorem tKind29 : tKind Tryz.prog 29 = some .map := by kernel_rfl
@[go_sem] theorem tZero29 : tZero Tryz.prog 29 = some (.map none) := by kernel_rfl
@[go_sem] theorem tMapK29 : tMapK Tryz.prog 29 = some (.str, 3) := by kernel_rfl
@[go_sem] theorem tAgg31 : tAgg Tryz.prog 31 = some (some 5) := by kernel_rfl
@[go_sem] theorem tSize31 : tSize Tryz.prog 31 = some 5 := by kernel_rfl
@[go_sem] theorem tKind31 : tKind Tryz.prog 31 = some .oth := by kernel_rfl
@[go_sem] theorem tZero31 : tZero Tryz.prog 31 = some (.agg #[(.int .i64 0), (.int .i64 0), (.slice none 0 0), (.map none), (.map none)]) := by kernel_rfl
@[go_sem] theorem tPlaces31 : tPlaces Tryz.prog 31 = some [(0, 1), (1, 1), (2, 1), (3, 1), (4, 1)] := by kernel_rfl
@[go_sem] theorem tField31_0 : tField Tryz.prog 31 0 = some (0, 3) := by kernel_rfl
@[go_sem] theorem tField31_1 : tField Tryz.prog 31 1 = some (1, 3) := by kernel_rfl
@[go_sem] theorem tField31_2 : tField Tryz.prog 31 2 = some (2, 27) := by kernel_rfl
@[go_sem] theorem tField31_3 : tField Tryz.prog 31 3 = some (3, 28) := by kernel_rfl
@[go_sem] theorem tField31_4 : tField Tryz.prog 31 4 = some (4, 29) := by kernel_rfl
@[go_sem] theorem tAgg32 : tAgg Tryz.prog 32 = some none := by kernel_rfl
@[go_sem] theorem tSize32 : tSize Tryz.prog 32 = some 1 := by kernel_rfl
@[go_sem] theorem tKind32 : tKind Tryz.prog 32 = some (.int .i64) := by kernel_rfl
@[go_sem] theorem tZero32 : tZero Tryz.prog 32 = some (.int .i64 0) := by kernel_rfl
@[go_sem] theorem tAgg35 : tAgg Tryz.prog 35 = some none := by kernel_rfl
@[go_sem] theorem tSize35 : tSize Tryz.prog 35 = some 1 := by kernel_rfl
@[go_sem] theorem tKind35 : tKind Tryz.prog 35 = some .oth := by kernel_rfl
@[go_sem] theorem tZero35 : tZero Tryz.prog 35 = some .nilFunc := by kernel_rfl
@[go_sem] theorem tAgg36 : tAgg Tryz.prog 36 = some none := by kernel_rfl
@[go_sem] theorem tSize36 : tSize Tryz.prog 36 = some 1 := by kernel_rfl
@[go_sem] theorem tKind36 : tKind Tryz.prog 36 = some .oth := by kernel_rfl
@[go_sem] theorem tZero36 : tZero Tryz.prog 36 = some .nilFunc := by kernel_rfl
@[go_sem] theorem tAgg38 : tAgg Tryz.prog 38 = some (some 4) := by kernel_rfl
@[go_sem] theorem tSize38 : tSize Tryz.prog 38 = some 4 := by kernel_rfl
@[go_sem] theorem tKind38 : tKind Tryz.prog 38 = some .oth := by kernel_rfl
@[go_sem] theorem tZero38 : tZero Tryz.prog 38 = some (.agg #[(.int .i64 0), (.int .i64 0), (.int .i64 0), (.int .i64 0)]) := by kernel_rfl
@[go_sem] theorem tPlaces38 : tPlaces Tryz.prog 38 = some [(0, 1), (1, 1), (2, 1), (3, 1)] := by kernel_rfl
@[go_sem] theorem tArr38 : tArr Tryz.prog 38 = some (4, 3, 1) := by kernel_rfl
@[go_sem] theorem tAgg48 : tAgg Tryz.prog 48 = some none := by kernel_rfl
@[go_sem] theorem tSize48 : tSize Tryz.prog 48 = some 1 := by kernel_rfl
@[go_sem] theorem tKind48 : tKind Tryz.prog 48 = some .oth := by kernel_rfl
@[go_sem] theorem tZero48 : tZero Tryz.prog 48 = some .nilFunc := by kernel_rfl
@[go_sem] theorem tAgg49 : tAgg Tryz.prog 49 = some none := by kernel_rfl
@[go_sem] theorem tSize49 : tSize Tryz.prog 49 = some 1 := by kernel_rfl
@[go_sem] theorem tKind49 : tKind Tryz.prog 49 = some .map := by kernel_rfl
@[go_sem] theorem tZero49 : tZero Tryz.prog 49 = some (.map none) := by kernel_rfl
@[go_sem] theorem tMapK49 : tMapK Tryz.prog 49 = some (.str, 50) := by kernel_rfl
@[go_sem] theorem tAgg50 : tAgg Tryz.prog 50 = some none := by kernel_rfl
@[go_sem] theorem tSize50 : tSize Tryz.prog 50 = some 1 := by kernel_rfl
@[go_sem] theorem tKind50 : tKind Tryz.prog 50 = some .ptr := by kernel_rfl
@[go_sem] theorem tZero50 : tZero Tryz.prog 50 = some (.pointer none) := by kernel_rfl
@[go_sem] theorem tAgg54 : tAgg Tryz.prog 54 = some none := by kernel_rfl
@[go_sem] theorem tSize54 : tSize Tryz.prog 54 = some 1 := by kernel_rfl
@[go_sem] theorem tKind54 : tKind Tryz.prog 54 = some .slc := by kernel_rfl
@[go_sem] theorem tZero54 : tZero Tryz.prog 54 = some (.slice none 0 0) := by kernel_rfl
@[go_sem] theorem tElem54 : tElem Tryz.prog 54 = some ⟨69, 1, 8, (.int .u64 0)⟩ := by kernel_rfl
@[go_sem] theorem tAgg56 : tAgg Tryz.prog 56 = some (some 2) := by kernel_rfl
@[go_sem] theorem tSize56 : tSize Tryz.prog 56 = some 2 := by kernel_rfl
@[go_sem] theorem tKind56 : tKind Tryz.prog 56 = some .oth := by kernel_rfl
@[go_sem] theorem tZero56 : tZero Tryz.prog 56 = some (.agg #[(.int .i64 0), (.slice none 0 0)]) := by kernel_rfl
@[go_sem] theorem tPlaces56 : tPlaces Tryz.prog 56 = some [(0, 1), (1, 1)] := by kernel_rfl
@[go_sem] theorem tField56_0 : tField Tryz.prog 56 0 = some (0, 3) := by kernel_rfl
@[go_sem] theorem tField56_1 : tField Tryz.prog 56 1 = some (1, 54) := by kernel_rfl
@[go_sem] theorem tAgg58 : tAgg Tryz.prog 58 = some (some 4) := by kernel_rfl
@[go_sem] theorem tSize58 : tSize Tryz.prog 58 = some 4 := by kernel_rfl
@[go_sem] theorem tKind58 : tKind Tryz.prog 58 = some .oth := by kernel_rfl
@[go_sem] theorem tZero58 : tZero Tryz.prog 58 = some (.agg #[(.int .i64 0), (.int .i64 0), (.int .i64 0), (.slice none 0 0)]) := by kernel_rfl
@[go_sem] theorem tPlaces58 : tPlaces Tryz.prog 58 = some [(0, 1), (1, 1), (2, 2)] := by kernel_rfl
@[go_sem] theorem tField58_0 : tField Tryz.prog 58 0 = some (0, 3) := by kernel_rfl
@[go_sem] theorem tField58_1 : tField Tryz.prog 58 1 = some (1, 3) := by kernel_rfl
@[go_sem] theorem tField58_2 : tField Tryz.prog 58 2 = some (2, 56) := by kernel_rfl
@[go_sem] theorem tAgg60 : tAgg Tryz.prog 60 = some (some 7) := by kernel_rfl
@[go_sem] theorem tSize60 : tSize Tryz.prog 60 = some 7 := by kernel_rfl
@[go_sem] theorem tKind60 : tKind Tryz.prog 60 = some .oth := by kernel_rfl
@[go_sem] theorem tZero60 : tZero Tryz.prog 60 = some (.agg #[(.int .i64 0), (.slice none 0 0), (.int .i64 0), (.int .i64 0), (.int .i64 0), (.int .i64 0), (.slice none 0 0)]) := by kernel_rfl
@[go_sem] theorem tPlaces60 : tPlaces Tryz.prog 60 = some [(0, 2), (2, 1), (3, 4)] := by kernel_rfl
@[go_sem] theorem tField60_0 : tField Tryz.prog 60 0 = some (0, 56) := by kernel_rfl
@[go_sem] theorem tField60_1 : tField Tryz.prog 60 1 = some (2, 3) := by kernel_rfl
@[go_sem] theorem tField60_2 : tField Tryz.prog 60 2 = some (3, 58) := by kernel_rfl
@[go_sem] theorem tAgg68 : tAgg Tryz.prog 68 = some (some 2) := by kernel_rfl
@[go_sem] theorem tSize68 : tSize Tryz.prog 68 = some 2 := by kernel_rfl
@[go_sem] theorem tKind68 : tKind Tryz.prog 68 = some .oth := by kernel_rfl
@[go_sem] theorem tZero68 : tZero Tryz.prog 68 = some (.agg #[(.int .i64 0), (.slice none 0 0)]) := by kernel_rfl
@[go_sem] theorem tPlaces68 : tPlaces Tryz.prog 68 = some [(0, 1), (1, 1)] := by kernel_rfl
@[go_sem] theorem tField68_0 : tField Tryz.prog 68 0 = some (0, 3) := by kernel_rfl
@[go_sem] theorem tField68_1 : tField Tryz.prog 68 1 = some (1, 54) := by kernel_rfl
@[go_sem] theorem tAgg69 : tAgg Tryz.prog 69 = some none := by kernel_rfl
@[go_sem] theorem tSize69 : tSize Tryz.prog 69 = some 1 := by kernel_rfl
@[go_sem] theorem tKind69 : tKind Tryz.prog 69 = some (.int .u64) := by kernel_rfl
@[go_sem] theorem tZero69 : tZero Tryz.prog 69 = some (.int .u64 0) := by kernel_rfl
@[go_sem] theorem tAgg76 : tAgg Tryz.prog 76 = some none := by kernel_rfl
@[go_sem] theorem tSize76 : tSize Tryz.prog 76 = some 1 := by kernel_rfl
@[go_sem] theorem tKind76 : tKind Tryz.prog 76 = some .slc := by kernel_rfl
@[go_sem] theorem tZero76 : tZero Tryz.prog 76 = some (.slice none 0 0) := by kernel_rfl
@[go_sem] theorem tElem76 : tElem Tryz.prog 76 = some ⟨78, 3, 40, (.agg #[(.int .i64 0), (.int .i64 0), (.slice none 0 0)])⟩ := by kernel_rfl
@[go_sem] theorem tAgg78 : tAgg Tryz.prog 78 = some (some 3) := by kernel_rfl
@[go_sem] theorem tSize78 : tSize Tryz.prog 78 = some 3 := by kernel_rfl
@[go_sem] theorem tKind78 : tKind Tryz.prog 78 = some .oth := by kernel_rfl
@[go_sem] theorem tZero78 : tZero Tryz.prog 78 = some (.agg #[(.int .i64 0), (.int .i64 0), (.slice none 0 0)]) := by kernel_rfl
@[go_sem] theorem tPlaces78 : tPlaces Tryz.prog 78 = some [(0, 1), (1, 1), (2, 1)] := by kernel_rfl
@[go_sem] theorem tField78_0 : tField Tryz.prog 78 0 = some (0, 3) := by kernel_rfl
@[go_sem] theorem tField78_1 : tField Tryz.prog 78 1 = some (1, 3) := by kernel_rfl
@[go_sem] theorem tField78_2 : tField Tryz.prog 78 2 = some (2, 22) := by kernel_rfl
@[go_sem] theorem tAgg81 : tAgg Tryz.prog 81 = some none := by kernel_rfl
@[go_sem] theorem tSize81 : tSize Tryz.prog 81 = some 1 := by kernel_rfl
@[go_sem] theorem tKind81 : tKind Tryz.prog 81 = some .slc := by kernel_rfl
@[go_sem] theorem tZero81 : tZero Tryz.prog 81 = some (.slice none 0 0) := by kernel_rfl
@[go_sem] theorem tElem81 : tElem Tryz.prog 81 = some ⟨5, 1, 1, (.int .u8 0)⟩ := by kernel_rfl
@[go_sem] theorem tAgg82 : tAgg Tryz.prog 82 = some none := by kernel_rfl
@[go_sem] theorem tSize82 : tSize Tryz.prog 82 = some 1 := by kernel_rfl
@[go_sem] theorem tKind82 : tKind Tryz.prog 82 = some .slc := by kernel_rfl
@[go_sem] theorem tZero82 : tZero Tryz.prog 82 = some (.slice none 0 0) := by kernel_rfl
@[go_sem] theorem tElem82 : tElem Tryz.prog 82 = some ⟨84, 3, 40, (.agg #[(.int .i64 0), (.int .i64 0), (.slice none 0 0)])⟩ := by kernel_rfl
@[go_sem] theorem tAgg84 : tAgg Tryz.prog 84 = some (some 3) := by kernel_rfl
@[go_sem] theorem tSize84 : tSize Tryz.prog 84 = some 3 := by kernel_rfl
@[go_sem] theorem tKind84 : tKind Tryz.prog 84 = some .oth := by kernel_rfl
@[go_sem] theorem tZero84 : tZero Tryz.prog 84 = some (.agg #[(.int .i64 0), (.int .i64 0), (.slice none 0 0)]) := by kernel_rfl
@[go_sem] theorem tPlaces84 : tPlaces Tryz.prog 84 = some [(0, 1), (1, 1), (2, 1)] := by kernel_rfl
@[go_sem] theorem tField84_0 : tField Tryz.prog 84 0 = some (0, 3) := by kernel_rfl
@[go_sem] theorem tField84_1 : tField Tryz.prog 84 1 = some (1, 3) := by kernel_rfl
@[go_sem] theorem tField84_2 : tField Tryz.prog 84 2 = some (2, 22) := by kernel_rfl
@[go_sem] theorem tAgg86 : tAgg Tryz.prog 86 = some none := by kernel_rfl
@[go_sem] theorem tSize86 : tSize Tryz.prog 86 = some 1 := by kernel_rfl
@[go_sem] theorem tKind86 : tKind Tryz.prog 86 = some .oth := by kernel_rfl
@[go_sem] theorem tZero86 : tZero Tryz.prog 86 = some .nilFunc := by kernel_rfl
@[go_sem] theorem tAgg94 : tAgg Tryz.prog 94 = some none := by kernel_rfl
@[go_sem] theorem tSize94 : tSize Tryz.prog 94 = some 1 := by kernel_rfl
@[go_sem] theorem tKind94 : tKind Tryz.prog 94 = some (.int .u64) := by kernel_rfl
@[go_sem] theorem tZero94 : tZero Tryz.prog 94 = some (.int .u64 0) := by kernel_rfl
@[go_sem] theorem tAgg98 : tAgg Tryz.prog 98 = some none := by kernel_rfl
@[go_sem] theorem tSize98 : tSize Tryz.prog 98 = some 1 := by kernel_rfl
@[go_sem] theorem tKind98 : tKind Tryz.prog 98 = some .ptr := by kernel_rfl
@[go_sem] theorem tZero98 : tZero Tryz.prog 98 = some (.pointer none) := by kernel_rfl
@[go_sem] theorem tAgg100 : tAgg Tryz.prog 100 = some (some 2) := by kernel_rfl
@[go_sem] theorem tSize100 : tSize Tryz.prog 100 = some 2 := by kernel_rfl
@[go_sem] theorem tKind100 : tKind Tryz.prog 100 = some .oth := by kernel_rfl
@[go_sem] theorem tZero100 : tZero Tryz.prog 100 = some (.agg #[(.pointer none), (.slice none 0 0)]) := by kernel_rfl
@[go_sem] theorem tPlaces100 : tPlaces Tryz.prog 100 = some [(0, 1), (1, 1)] := by kernel_rfl
@[go_sem] theorem tField100_0 : tField Tryz.prog 100 0 = some (0, 98) := by kernel_rfl
@[go_sem] theorem tField100_1 : tField Tryz.prog 100 1 = some (1, 81) := by kernel_rfl
@[go_sem] theorem tAgg112 : tAgg Tryz.prog 112 = some none := by kernel_rfl
@[go_sem] theorem tSize112 : tSize Tryz.prog 112 = some 1 := by kernel_rfl
@[go_sem] theorem tKind112 : tKind Tryz.prog 112 = some .slc := by kernel_rfl
@[go_sem] theorem tZero112 : tZero Tryz.prog 112 = some (.slice none 0 0) := by kernel_rfl
@[go_sem] theorem tElem112 : tElem Tryz.prog 112 = some ⟨22, 1, 24, (.slice none 0 0)⟩ := by kernel_rfl
@[go_sem] theorem tAgg117 : tAgg Tryz.prog 117 = some none := by kernel_rfl
@[go_sem] theorem tSize117 : tSize Tryz.prog 117 = some 1 := by kernel_rfl
@[go_sem] theorem tKind117 : tKind Tryz.prog 117 = some (.int .u32) := by kernel_rfl
@[go_sem] theorem tZero117 : tZero Tryz.prog 117 = some (.int .u32 0) := by kernel_rfl
@[go_sem] theorem tAgg122 : tAgg Tryz.prog 122 = some none := by kernel_rfl
@[go_sem] theorem tSize122 : tSize Tryz.prog 122 = some 1 := by kernel_rfl
@[go_sem] theorem tKind122 : tKind Tryz.prog 122 = some .ptr := by kernel_rfl
@[go_sem] theorem tZero122 : tZero Tryz.prog 122 = some (.pointer none) := by kernel_rfl
@[go_sem] theorem tAgg128 : tAgg Tryz.prog 128 = some none := by kernel_rfl
@[go_sem] theorem tSize128 : tSize Tryz.prog 128 = some 1 := by kernel_rfl
@[go_sem] theorem tKind128 : tKind Tryz.prog 128 = some (.int .i64) := by kernel_rfl
@[go_sem] theorem tZero128 : tZero Tryz.prog 128 = some (.int .i64 0) := by kernel_rfl
@[go_sem] theorem tAgg140 : tAgg Tryz.prog 140 = some none := by kernel_rfl
@[go_sem] theorem tSize140 : tSize Tryz.prog 140 = some 1 := by kernel_rfl
@[go_sem] theorem tKind140 : tKind Tryz.prog 140 = some (.int .u64) := by kernel_rfl
@[go_sem] theorem tZero140 : tZero Tryz.prog 140 = some (.int .u64 0) := by kernel_rfl
@[go_sem] theorem tAgg144 : tAgg Tryz.prog 144 = some none := by kernel_rfl
@[go_sem] theorem tSize144 : tSize Tryz.prog 144 = some 1 := by kernel_rfl
@[go_sem] theorem tKind144 : tKind Tryz.prog 144 = some .ptr := by kernel_rfl
@[go_sem] theorem tZero144 : tZero Tryz.prog 144 = some (.pointer none) := by kernel_rfl
theorem mixed : Tryz.prog.follows .mixedOrders = true := by kernel_rfl
section
variable {ops : List Oper} {i : Nat} {Q : Exit → St → Prop} {s : St}
theorem rP (h : run Tryz.prog ops ops (fun s l => leftD Tryz.prog (fun _ => .p) ops (Q .normal) s l) s) (hB : lexA (fun _ => .p) ops ops 0 (Array.replicate ops.length false) = true := by kernel_rfl) : aw Tryz.prog (.region i ops.toArray true) Q s := aw_regionD (fun _ => .p) mixed hB (dops_run h)
theorem rR (h : run Tryz.prog ops ops (fun s l => leftD Tryz.prog (fun _ => .r) ops (Q .normal) s l) s) (hB : lexA (fun _ => .r) ops ops 0 (Array.replicate ops.length false) = true := by kernel_rfl) : aw Tryz.prog (.region i ops.toArray true) Q s := aw_regionD (fun _ => .r) mixed hB (dops_run h)
theorem rW (h : run Tryz.prog ops ops (fun s l => leftD Tryz.prog (fun _ => .w) ops (Q .normal) s l) s) (hB : lexA (fun _ => .w) ops ops 0 (Array.replicate ops.length false) = true := by kernel_rfl) : aw Tryz.prog (.region i ops.toArray true) Q s := aw_regionD (fun _ => .w) mixed hB (dops_run h)
end

end Go.Proofs.YtpjncojljamacaaGreat.AM
