/- Of each type of the translation: cells, elements, zero values, fields. Written by wip/tools/types.py. No condition. -/
import Derived.Test.YtnmfnekfobbabaaA18
import Derived.Test.YtnmfnekfobbabaaProg
import Derived.KernelRfl
namespace Go.Proofs.Ytnmfnekfobbabaa.AM
open Go Go.RowKit

@[go_sem] theorem tAgg2 : tAgg Try.prog 2 = some none := by kernel_rfl
@[go_sem] theorem tSize2 : tSize Try.prog 2 = some 1 := by kernel_rfl
@[go_sem] theorem tKind2 : tKind Try.prog 2 = some (.int .i64) := by kernel_rfl
@[go_sem] theorem tZero2 : tZero Try.prog 2 = some (.int .i64 0) := by kernel_rfl
@[go_sem] theorem tAgg3 : tAgg Try.prog 3 = some none := by kernel_rfl
@[go_sem] theorem tSize3 : tSize Try.prog 3 = some 1 := by kernel_rfl
@[go_sem] theorem tKind3 : tKind Try.prog 3 = some (.int .i64) := by kernel_rfl
@[go_sem] theorem tZero3 : tZero Try.prog 3 = some (.int .i64 0) := by kernel_rfl
@[go_sem] theorem tAgg4 : tAgg Try.prog 4 = some none := by kernel_rfl
@[go_sem] theorem tSize4 : tSize Try.prog 4 = some 1 := by kernel_rfl
@[go_sem] theorem tKind4 : tKind Try.prog 4 = some .bool := by kernel_rfl
@[go_sem] theorem tZero4 : tZero Try.prog 4 = some (.bool false) := by kernel_rfl
@[go_sem] theorem tAgg5 : tAgg Try.prog 5 = some none := by kernel_rfl
@[go_sem] theorem tSize5 : tSize Try.prog 5 = some 1 := by kernel_rfl
@[go_sem] theorem tKind5 : tKind Try.prog 5 = some (.int .u8) := by kernel_rfl
@[go_sem] theorem tZero5 : tZero Try.prog 5 = some (.int .u8 0) := by kernel_rfl
@[go_sem] theorem tAgg6 : tAgg Try.prog 6 = some none := by kernel_rfl
@[go_sem] theorem tSize6 : tSize Try.prog 6 = some 1 := by kernel_rfl
@[go_sem] theorem tKind6 : tKind Try.prog 6 = some (.int .u8) := by kernel_rfl
@[go_sem] theorem tZero6 : tZero Try.prog 6 = some (.int .u8 0) := by kernel_rfl
@[go_sem] theorem tAgg7 : tAgg Try.prog 7 = some (some 4) := by kernel_rfl
@[go_sem] theorem tSize7 : tSize Try.prog 7 = some 4 := by kernel_rfl
@[go_sem] theorem tKind7 : tKind Try.prog 7 = some .oth := by kernel_rfl
@[go_sem] theorem tZero7 : tZero Try.prog 7 = some (.agg #[(.int .i64 0), (.int .i64 0), (.bool false), (.int .u8 0)]) := by kernel_rfl
@[go_sem] theorem tPlaces7 : tPlaces Try.prog 7 = some [(0, 1), (1, 1), (2, 1), (3, 1)] := by kernel_rfl
@[go_sem] theorem tField7_0 : tField Try.prog 7 0 = some (0, 2) := by kernel_rfl
@[go_sem] theorem tField7_1 : tField Try.prog 7 1 = some (1, 3) := by kernel_rfl
@[go_sem] theorem tField7_2 : tField Try.prog 7 2 = some (2, 4) := by kernel_rfl
@[go_sem] theorem tField7_3 : tField Try.prog 7 3 = some (3, 6) := by kernel_rfl
@[go_sem] theorem tAgg8 : tAgg Try.prog 8 = some (some 4) := by kernel_rfl
@[go_sem] theorem tSize8 : tSize Try.prog 8 = some 4 := by kernel_rfl
@[go_sem] theorem tKind8 : tKind Try.prog 8 = some .oth := by kernel_rfl
@[go_sem] theorem tZero8 : tZero Try.prog 8 = some (.agg #[(.int .i64 0), (.int .i64 0), (.bool false), (.int .u8 0)]) := by kernel_rfl
@[go_sem] theorem tPlaces8 : tPlaces Try.prog 8 = some [(0, 1), (1, 1), (2, 1), (3, 1)] := by kernel_rfl
@[go_sem] theorem tField8_0 : tField Try.prog 8 0 = some (0, 2) := by kernel_rfl
@[go_sem] theorem tField8_1 : tField Try.prog 8 1 = some (1, 3) := by kernel_rfl
@[go_sem] theorem tField8_2 : tField Try.prog 8 2 = some (2, 4) := by kernel_rfl
@[go_sem] theorem tField8_3 : tField Try.prog 8 3 = some (3, 6) := by kernel_rfl
@[go_sem] theorem tAgg9 : tAgg Try.prog 9 = some none := by kernel_rfl
@[go_sem] theorem tSize9 : tSize Try.prog 9 = some 1 := by kernel_rfl
@[go_sem] theorem tKind9 : tKind Try.prog 9 = some .str := by kernel_rfl
@[go_sem] theorem tZero9 : tZero Try.prog 9 = some (.string ⟨#[]⟩) := by kernel_rfl
@[go_sem] theorem tAgg10 : tAgg Try.prog 10 = some none := by kernel_rfl
@[go_sem] theorem tSize10 : tSize Try.prog 10 = some 1 := by kernel_rfl
@[go_sem] theorem tKind10 : tKind Try.prog 10 = some .str := by kernel_rfl
@[go_sem] theorem tZero10 : tZero Try.prog 10 = some (.string ⟨#[]⟩) := by kernel_rfl
@[go_sem] theorem tAgg11 : tAgg Try.prog 11 = some none := by kernel_rfl
@[go_sem] theorem tSize11 : tSize Try.prog 11 = some 1 := by kernel_rfl
@[go_sem] theorem tKind11 : tKind Try.prog 11 = some .str := by kernel_rfl
@[go_sem] theorem tZero11 : tZero Try.prog 11 = some (.string ⟨#[]⟩) := by kernel_rfl
@[go_sem] theorem tAgg12 : tAgg Try.prog 12 = some none := by kernel_rfl
@[go_sem] theorem tSize12 : tSize Try.prog 12 = some 1 := by kernel_rfl
@[go_sem] theorem tKind12 : tKind Try.prog 12 = some (.int .u64) := by kernel_rfl
@[go_sem] theorem tZero12 : tZero Try.prog 12 = some (.int .u64 0) := by kernel_rfl
@[go_sem] theorem tAgg13 : tAgg Try.prog 13 = some (some 2) := by kernel_rfl
@[go_sem] theorem tSize13 : tSize Try.prog 13 = some 2 := by kernel_rfl
@[go_sem] theorem tKind13 : tKind Try.prog 13 = some .oth := by kernel_rfl
@[go_sem] theorem tZero13 : tZero Try.prog 13 = some (.agg #[(.string ⟨#[]⟩), (.int .u64 0)]) := by kernel_rfl
@[go_sem] theorem tPlaces13 : tPlaces Try.prog 13 = some [(0, 1), (1, 1)] := by kernel_rfl
@[go_sem] theorem tField13_0 : tField Try.prog 13 0 = some (0, 9) := by kernel_rfl
@[go_sem] theorem tField13_1 : tField Try.prog 13 1 = some (1, 12) := by kernel_rfl
@[go_sem] theorem tAgg14 : tAgg Try.prog 14 = some (some 2) := by kernel_rfl
@[go_sem] theorem tSize14 : tSize Try.prog 14 = some 2 := by kernel_rfl
@[go_sem] theorem tKind14 : tKind Try.prog 14 = some .oth := by kernel_rfl
@[go_sem] theorem tZero14 : tZero Try.prog 14 = some (.agg #[(.string ⟨#[]⟩), (.int .u64 0)]) := by kernel_rfl
@[go_sem] theorem tPlaces14 : tPlaces Try.prog 14 = some [(0, 1), (1, 1)] := by kernel_rfl
@[go_sem] theorem tField14_0 : tField Try.prog 14 0 = some (0, 9) := by kernel_rfl
@[go_sem] theorem tField14_1 : tField Try.prog 14 1 = some (1, 12) := by kernel_rfl
@[go_sem] theorem tAgg15 : tAgg Try.prog 15 = some none := by kernel_rfl
@[go_sem] theorem tSize15 : tSize Try.prog 15 = some 1 := by kernel_rfl
@[go_sem] theorem tKind15 : tKind Try.prog 15 = some .ptr := by kernel_rfl
@[go_sem] theorem tZero15 : tZero Try.prog 15 = some (.pointer none) := by kernel_rfl
@[go_sem] theorem tAgg16 : tAgg Try.prog 16 = some none := by kernel_rfl
@[go_sem] theorem tSize16 : tSize Try.prog 16 = some 1 := by kernel_rfl
@[go_sem] theorem tKind16 : tKind Try.prog 16 = some .ptr := by kernel_rfl
@[go_sem] theorem tZero16 : tZero Try.prog 16 = some (.pointer none) := by kernel_rfl
@[go_sem] theorem tAgg17 : tAgg Try.prog 17 = some none := by kernel_rfl
@[go_sem] theorem tSize17 : tSize Try.prog 17 = some 1 := by kernel_rfl
@[go_sem] theorem tKind17 : tKind Try.prog 17 = some .ptr := by kernel_rfl
@[go_sem] theorem tZero17 : tZero Try.prog 17 = some (.pointer none) := by kernel_rfl
@[go_sem] theorem tAgg18 : tAgg Try.prog 18 = some (some 1) := by kernel_rfl
@[go_sem] theorem tSize18 : tSize Try.prog 18 = some 1 := by kernel_rfl
@[go_sem] theorem tKind18 : tKind Try.prog 18 = some .oth := by kernel_rfl
@[go_sem] theorem tZero18 : tZero Try.prog 18 = some (.agg #[(.pointer none)]) := by kernel_rfl
@[go_sem] theorem tPlaces18 : tPlaces Try.prog 18 = some [(0, 1)] := by kernel_rfl
@[go_sem] theorem tField18_0 : tField Try.prog 18 0 = some (0, 17) := by kernel_rfl
@[go_sem] theorem tAgg19 : tAgg Try.prog 19 = some (some 1) := by kernel_rfl
@[go_sem] theorem tSize19 : tSize Try.prog 19 = some 1 := by kernel_rfl
@[go_sem] theorem tKind19 : tKind Try.prog 19 = some .oth := by kernel_rfl
@[go_sem] theorem tZero19 : tZero Try.prog 19 = some (.agg #[(.pointer none)]) := by kernel_rfl
@[go_sem] theorem tPlaces19 : tPlaces Try.prog 19 = some [(0, 1)] := by kernel_rfl
@[go_sem] theorem tField19_0 : tField Try.prog 19 0 = some (0, 17) := by kernel_rfl
@[go_sem] theorem tAgg21 : tAgg Try.prog 21 = some none := by kernel_rfl
@[go_sem] theorem tSize21 : tSize Try.prog 21 = some 1 := by kernel_rfl
@[go_sem] theorem tKind21 : tKind Try.prog 21 = some (.int .i32) := by kernel_rfl
@[go_sem] theorem tZero21 : tZero Try.prog 21 = some (.int .i32 0) := by kernel_rfl
@[go_sem] theorem tAgg22 : tAgg Try.prog 22 = some none := by kernel_rfl
@[go_sem] theorem tSize22 : tSize Try.prog 22 = some 1 := by kernel_rfl
@[go_sem] theorem tKind22 : tKind Try.prog 22 = some .slc := by kernel_rfl
@[go_sem] theorem tZero22 : tZero Try.prog 22 = some (.slice none 0 0) := by kernel_rfl
@[go_sem] theorem tElem22 : tElem Try.prog 22 = some ⟨3, 1, 8, (.int .i64 0)⟩ := by kernel_rfl
@[go_sem] theorem tAgg25 : tAgg Try.prog 25 = some none := by kernel_rfl
@[go_sem] theorem tSize25 : tSize Try.prog 25 = some 1 := by kernel_rfl
@[go_sem] theorem tKind25 : tKind Try.prog 25 = some .slc := by kernel_rfl
@[go_sem] theorem tZero25 : tZero Try.prog 25 = some (.slice none 0 0) := by kernel_rfl
@[go_sem] theorem tElem25 : tElem Try.prog 25 = some ⟨53, 1, 8, (.int .u64 0)⟩ := by kernel_rfl
@[go_sem] theorem tAgg26 : tAgg Try.prog 26 = some (some 2) := by kernel_rfl
@[go_sem] theorem tSize26 : tSize Try.prog 26 = some 2 := by kernel_rfl
@[go_sem] theorem tKind26 : tKind Try.prog 26 = some .oth := by kernel_rfl
@[go_sem] theorem tZero26 : tZero Try.prog 26 = some (.agg #[(.int .i64 0), (.slice none 0 0)]) := by kernel_rfl
@[go_sem] theorem tPlaces26 : tPlaces Try.prog 26 = some [(0, 1), (1, 1)] := by kernel_rfl
@[go_sem] theorem tField26_0 : tField Try.prog 26 0 = some (0, 3) := by kernel_rfl
@[go_sem] theorem tField26_1 : tField Try.prog 26 1 = some (1, 25) := by kernel_rfl
@[go_sem] theorem tAgg27 : tAgg Try.prog 27 = some (some 2) := by kernel_rfl
@[go_sem] theorem tSize27 : tSize Try.prog 27 = some 2 := by kernel_rfl
@[go_sem] theorem tKind27 : tKind Try.prog 27 = some .oth := by kernel_rfl
@[go_sem] theorem tZero27 : tZero Try.prog 27 = some (.agg #[(.int .i64 0), (.slice none 0 0)]) := by kernel_rfl
@[go_sem] theorem tPlaces27 : tPlaces Try.prog 27 = some [(0, 1), (1, 1)] := by kernel_rfl
@[go_sem] theorem tField27_0 : tField Try.prog 27 0 = some (0, 3) := by kernel_rfl
@[go_sem] theorem tField27_1 : tField Try.prog 27 1 = some (1, 25) := by kernel_rfl
@[go_sem] theorem tAgg28 : tAgg Try.prog 28 = some (some 4) := by kernel_rfl
@[go_sem] theorem tSize28 : tSize Try.prog 28 = some 4 := by kernel_rfl
@[go_sem] theorem tKind28 : tKind Try.prog 28 = some .oth := by kernel_rfl
@[go_sem] theorem tZero28 : tZero Try.prog 28 = some (.agg #[(.int .i64 0), (.int .i64 0), (.int .i64 0), (.slice none 0 0)]) := by kernel_rfl
@[go_sem] theorem tPlaces28 : tPlaces Try.prog 28 = some [(0, 1), (1, 1), (2, 2)] := by kernel_rfl
@[go_sem] theorem tField28_0 : tField Try.prog 28 0 = some (0, 3) := by kernel_rfl
@[go_sem] theorem tField28_1 : tField Try.prog 28 1 = some (1, 3) := by kernel_rfl
@[go_sem] theorem tField28_2 : tField Try.prog 28 2 = some (2, 27) := by kernel_rfl
@[go_sem] theorem tAgg29 : tAgg Try.prog 29 = some (some 4) := by kernel_rfl
@[go_sem] theorem tSize29 : tSize Try.prog 29 = some 4 := by kernel_rfl
@[go_sem] theorem tKind29 : tKind Try.prog 29 = some .oth := by kernel_rfl
@[go_sem] theorem tZero29 : tZero Try.prog 29 = some (.agg #[(.int .i64 0), (.int .i64 0), (.int .i64 0), (.slice none 0 0)]) := by kernel_rfl
@[go_sem] theorem tPlaces29 : tPlaces Try.prog 29 = some [(0, 1), (1, 1), (2, 2)] := by kernel_rfl
@[go_sem] theorem tField29_0 : tField Try.prog 29 0 = some (0, 3) := by kernel_rfl
@[go_sem] theorem tField29_1 : tField Try.prog 29 1 = some (1, 3) := by kernel_rfl
@[go_sem] theorem tField29_2 : tField Try.prog 29 2 = some (2, 27) := by kernel_rfl
@[go_sem] theorem tAgg30 : tAgg Try.prog 30 = some none := by kernel_rfl
@[go_sem] theorem tSize30 : tSize Try.prog 30 = some 1 := by kernel_rfl
@[go_sem] theorem tKind30 : tKind Try.prog 30 = some (.int .i64) := by kernel_rfl
@[go_sem] theorem tZero30 : tZero Try.prog 30 = some (.int .i64 0) := by kernel_rfl
@[go_sem] theorem tAgg35 : tAgg Try.prog 35 = some none := by kernel_rfl
@[go_sem] theorem tSize35 : tSize Try.prog 35 = some 1 := by kernel_rfl
@[go_sem] theorem tKind35 : tKind Try.prog 35 = some (.int .u64) := by kernel_rfl
@[go_sem] theorem tZero35 : tZero Try.prog 35 = some (.int .u64 0) := by kernel_rfl
@[go_sem] theorem tAgg37 : tAgg Try.prog 37 = some (some 2) := by kernel_rfl
@[go_sem] theorem tSize37 : tSize Try.prog 37 = some 2 := by kernel_rfl
@[go_sem] theorem tKind37 : tKind Try.prog 37 = some .oth := by kernel_rfl
@[go_sem] theorem tZero37 : tZero Try.prog 37 = some (.agg #[(.int .i64 0), (.int .i64 0)]) := by kernel_rfl
@[go_sem] theorem tArr37 : tArr Try.prog 37 = some (2, 3, 1) := by kernel_rfl
@[go_sem] theorem tAgg47 : tAgg Try.prog 47 = some none := by kernel_rfl
@[go_sem] theorem tSize47 : tSize Try.prog 47 = some 1 := by kernel_rfl
@[go_sem] theorem tKind47 : tKind Try.prog 47 = some .slc := by kernel_rfl
@[go_sem] theorem tZero47 : tZero Try.prog 47 = some (.slice none 0 0) := by kernel_rfl
@[go_sem] theorem tElem47 : tElem Try.prog 47 = some ⟨4, 1, 1, (.bool false)⟩ := by kernel_rfl
@[go_sem] theorem tAgg50 : tAgg Try.prog 50 = some none := by kernel_rfl
@[go_sem] theorem tSize50 : tSize Try.prog 50 = some 1 := by kernel_rfl
@[go_sem] theorem tKind50 : tKind Try.prog 50 = some .slc := by kernel_rfl
@[go_sem] theorem tZero50 : tZero Try.prog 50 = some (.slice none 0 0) := by kernel_rfl
@[go_sem] theorem tElem50 : tElem Try.prog 50 = some ⟨55, 3, 24, (.agg #[(.bool false), (.int .u64 0), (.int .i64 0)])⟩ := by kernel_rfl
@[go_sem] theorem tAgg51 : tAgg Try.prog 51 = some none := by kernel_rfl
@[go_sem] theorem tSize51 : tSize Try.prog 51 = some 1 := by kernel_rfl
@[go_sem] theorem tKind51 : tKind Try.prog 51 = some .ptr := by kernel_rfl
@[go_sem] theorem tZero51 : tZero Try.prog 51 = some (.pointer none) := by kernel_rfl
@[go_sem] theorem tAgg53 : tAgg Try.prog 53 = some none := by kernel_rfl
@[go_sem] theorem tSize53 : tSize Try.prog 53 = some 1 := by kernel_rfl
@[go_sem] theorem tKind53 : tKind Try.prog 53 = some (.int .u64) := by kernel_rfl
@[go_sem] theorem tZero53 : tZero Try.prog 53 = some (.int .u64 0) := by kernel_rfl
@[go_sem] theorem tAgg54 : tAgg Try.prog 54 = some (some 3) := by kernel_rfl
@[go_sem] theorem tSize54 : tSize Try.prog 54 = some 3 := by kernel_rfl
@[go_sem] theorem tKind54 : tKind Try.prog 54 = some .oth := by kernel_rfl
@[go_sem] theorem tZero54 : tZero Try.prog 54 = some (.agg #[(.bool false), (.int .u64 0), (.int .i64 0)]) := by kernel_rfl
@[go_sem] theorem tPlaces54 : tPlaces Try.prog 54 = some [(0, 1), (1, 1), (2, 1)] := by kernel_rfl
@[go_sem] theorem tField54_0 : tField Try.prog 54 0 = some (0, 4) := by kernel_rfl
@[go_sem] theorem tField54_1 : tField Try.prog 54 1 = some (1, 53) := by kernel_rfl
@[go_sem] theorem tField54_2 : tField Try.prog 54 2 = some (2, 3) := by kernel_rfl
@[go_sem] theorem tAgg55 : tAgg Try.prog 55 = some (some 3) := by kernel_rfl
@[go_sem] theorem tSize55 : tSize Try.prog 55 = some 3 := by kernel_rfl
@[go_sem] theorem tKind55 : tKind Try.prog 55 = some .oth := by kernel_rfl
@[go_sem] theorem tZero55 : tZero Try.prog 55 = some (.agg #[(.bool false), (.int .u64 0), (.int .i64 0)]) := by kernel_rfl
@[go_sem] theorem tPlaces55 : tPlaces Try.prog 55 = some [(0, 1), (1, 1), (2, 1)] := by kernel_rfl
@[go_sem] theorem tField55_0 : tField Try.prog 55 0 = some (0, 4) := by kernel_rfl
@[go_sem] theorem tField55_1 : tField Try.prog 55 1 = some (1, 53) := by kernel_rfl
@[go_sem] theorem tField55_2 : tField Try.prog 55 2 = some (2, 3) := by kernel_rfl
@[go_sem] theorem tAgg70 : tAgg Try.prog 70 = some none := by kernel_rfl
@[go_sem] theorem tSize70 : tSize Try.prog 70 = some 1 := by kernel_rfl
@[go_sem] theorem tKind70 : tKind Try.prog 70 = some .slc := by kernel_rfl
@[go_sem] theorem tZero70 : tZero Try.prog 70 = some (.slice none 0 0) := by kernel_rfl
@[go_sem] theorem tElem70 : tElem Try.prog 70 = some ⟨5, 1, 1, (.int .u8 0)⟩ := by kernel_rfl
@[go_sem] theorem tAgg78 : tAgg Try.prog 78 = some (some 2) := by kernel_rfl
@[go_sem] theorem tSize78 : tSize Try.prog 78 = some 2 := by kernel_rfl
@[go_sem] theorem tKind78 : tKind Try.prog 78 = some .oth := by kernel_rfl
@[go_sem] theorem tZero78 : tZero Try.prog 78 = some (.agg #[(.slice none 0 0), (.slice none 0 0)]) := by kernel_rfl
@[go_sem] theorem tPlaces78 : tPlaces Try.prog 78 = some [(0, 1), (1, 1)] := by kernel_rfl
@[go_sem] theorem tField78_0 : tField Try.prog 78 0 = some (0, 47) := by kernel_rfl
@[go_sem] theorem tField78_1 : tField Try.prog 78 1 = some (1, 22) := by kernel_rfl
@[go_sem] theorem tAgg79 : tAgg Try.prog 79 = some (some 2) := by kernel_rfl
@[go_sem] theorem tSize79 : tSize Try.prog 79 = some 2 := by kernel_rfl
@[go_sem] theorem tKind79 : tKind Try.prog 79 = some .oth := by kernel_rfl
@[go_sem] theorem tZero79 : tZero Try.prog 79 = some (.agg #[(.slice none 0 0), (.slice none 0 0)]) := by kernel_rfl
@[go_sem] theorem tPlaces79 : tPlaces Try.prog 79 = some [(0, 1), (1, 1)] := by kernel_rfl
@[go_sem] theorem tField79_0 : tField Try.prog 79 0 = some (0, 47) := by kernel_rfl
@[go_sem] theorem tField79_1 : tField Try.prog 79 1 = some (1, 22) := by kernel_rfl
@[go_sem] theorem tAgg80 : tAgg Try.prog 80 = some (some 7) := by kernel_rfl
@[go_sem] theorem tSize80 : tSize Try.prog 80 = some 7 := by kernel_rfl
@[go_sem] theorem tKind80 : tKind Try.prog 80 = some .oth := by kernel_rfl
@[go_sem] theorem tZero80 : tZero Try.prog 80 = some (.agg #[(.int .i64 0), (.slice none 0 0), (.int .i64 0), (.int .i64 0), (.int .i64 0), (.int .i64 0), (.slice none 0 0)]) := by kernel_rfl
@[go_sem] theorem tPlaces80 : tPlaces Try.prog 80 = some [(0, 2), (2, 1), (3, 4)] := by kernel_rfl
@[go_sem] theorem tField80_0 : tField Try.prog 80 0 = some (0, 27) := by kernel_rfl
@[go_sem] theorem tField80_1 : tField Try.prog 80 1 = some (2, 3) := by kernel_rfl
@[go_sem] theorem tField80_2 : tField Try.prog 80 2 = some (3, 29) := by kernel_rfl
@[go_sem] theorem tAgg81 : tAgg Try.prog 81 = some (some 7) := by kernel_rfl
@[go_sem] theorem tSize81 : tSize Try.prog 81 = some 7 := by kernel_rfl
@[go_sem] theorem tKind81 : tKind Try.prog 81 = some .oth := by kernel_rfl
@[go_sem] theorem tZero81 : tZero Try.prog 81 = some (.agg #[(.int .i64 0), (.slice none 0 0), (.int .i64 0), (.int .i64 0), (.int .i64 0), (.int .i64 0), (.slice none 0 0)]) := by kernel_rfl
@[go_sem] theorem tPlaces81 : tPlaces Try.prog 81 = some [(0, 2), (2, 1), (3, 4)] := by kernel_rfl
@[go_sem] theorem tField81_0 : tField Try.prog 81 0 = some (0, 27) := by kernel_rfl
@[go_sem] theorem tField81_1 : tField Try.prog 81 1 = some (2, 3) := by kernel_rfl
@[go_sem] theorem tField81_2 : tField Try.prog 81 2 = some (3, 29) := by kernel_rfl
@[go_sem] theorem tAgg91 : tAgg Try.prog 91 = some (some 2) := by kernel_rfl
@[go_sem] theorem tSize91 : tSize Try.prog 91 = some 2 := by kernel_rfl
@[go_sem] theorem tKind91 : tKind Try.prog 91 = some .oth := by kernel_rfl
@[go_sem] theorem tZero91 : tZero Try.prog 91 = some (.agg #[(.int .i64 0), (.slice none 0 0)]) := by kernel_rfl
@[go_sem] theorem tPlaces91 : tPlaces Try.prog 91 = some [(0, 1), (1, 1)] := by kernel_rfl
@[go_sem] theorem tField91_0 : tField Try.prog 91 0 = some (0, 3) := by kernel_rfl
@[go_sem] theorem tField91_1 : tField Try.prog 91 1 = some (1, 25) := by kernel_rfl
@[go_sem] theorem tAgg100 : tAgg Try.prog 100 = some (some 4) := by kernel_rfl
@[go_sem] theorem tSize100 : tSize Try.prog 100 = some 4 := by kernel_rfl
@[go_sem] theorem tKind100 : tKind Try.prog 100 = some .oth := by kernel_rfl
@[go_sem] theorem tZero100 : tZero Try.prog 100 = some (.agg #[(.pointer none), (.pointer none), (.pointer none), (.string ⟨#[]⟩)]) := by kernel_rfl
@[go_sem] theorem tPlaces100 : tPlaces Try.prog 100 = some [(0, 1), (1, 1), (2, 1), (3, 1)] := by kernel_rfl
@[go_sem] theorem tField100_0 : tField Try.prog 100 0 = some (0, 17) := by kernel_rfl
@[go_sem] theorem tField100_1 : tField Try.prog 100 1 = some (1, 17) := by kernel_rfl
@[go_sem] theorem tField100_2 : tField Try.prog 100 2 = some (2, 17) := by kernel_rfl
@[go_sem] theorem tField100_3 : tField Try.prog 100 3 = some (3, 9) := by kernel_rfl
@[go_sem] theorem tAgg101 : tAgg Try.prog 101 = some (some 4) := by kernel_rfl
@[go_sem] theorem tSize101 : tSize Try.prog 101 = some 4 := by kernel_rfl
@[go_sem] theorem tKind101 : tKind Try.prog 101 = some .oth := by kernel_rfl
@[go_sem] theorem tZero101 : tZero Try.prog 101 = some (.agg #[(.pointer none), (.pointer none), (.pointer none), (.string ⟨#[]⟩)]) := by kernel_rfl
@[go_sem] theorem tPlaces101 : tPlaces Try.prog 101 = some [(0, 1), (1, 1), (2, 1), (3, 1)] := by kernel_rfl
@[go_sem] theorem tField101_0 : tField Try.prog 101 0 = some (0, 17) := by kernel_rfl
@[go_sem] theorem tField101_1 : tField Try.prog 101 1 = some (1, 17) := by kernel_rfl
@[go_sem] theorem tField101_2 : tField Try.prog 101 2 = some (2, 17) := by kernel_rfl
@[go_sem] theorem tField101_3 : tField Try.prog 101 3 = some (3, 9) := by kernel_rfl
@[go_sem] theorem tAgg102 : tAgg Try.prog 102 = some (some 0) := by kernel_rfl
@[go_sem] theorem tSize102 : tSize Try.prog 102 = some 0 := by kernel_rfl
@[go_sem] theorem tKind102 : tKind Try.prog 102 = some .oth := by kernel_rfl
@[go_sem] theorem tZero102 : tZero Try.prog 102 = some (.agg #[]) := by kernel_rfl
@[go_sem] theorem tAgg103 : tAgg Try.prog 103 = some (some 0) := by kernel_rfl
@[go_sem] theorem tSize103 : tSize Try.prog 103 = some 0 := by kernel_rfl
@[go_sem] theorem tKind103 : tKind Try.prog 103 = some .oth := by kernel_rfl
@[go_sem] theorem tZero103 : tZero Try.prog 103 = some (.agg #[]) := by kernel_rfl
@[go_sem] theorem tPlaces103 : tPlaces Try.prog 103 = some [(0, 0)] := by kernel_rfl
@[go_sem] theorem tAgg104 : tAgg Try.prog 104 = some (some 0) := by kernel_rfl
@[go_sem] theorem tSize104 : tSize Try.prog 104 = some 0 := by kernel_rfl
@[go_sem] theorem tKind104 : tKind Try.prog 104 = some .oth := by kernel_rfl
@[go_sem] theorem tZero104 : tZero Try.prog 104 = some (.agg #[]) := by kernel_rfl
@[go_sem] theorem tPlaces104 : tPlaces Try.prog 104 = some [(0, 0)] := by kernel_rfl
@[go_sem] theorem tAgg105 : tAgg Try.prog 105 = some none := by kernel_rfl
@[go_sem] theorem tSize105 : tSize Try.prog 105 = some 1 := by kernel_rfl
@[go_sem] theorem tKind105 : tKind Try.prog 105 = some (.int .u32) := by kernel_rfl
@[go_sem] theorem tZero105 : tZero Try.prog 105 = some (.int .u32 0) := by kernel_rfl
@[go_sem] theorem tAgg106 : tAgg Try.prog 106 = some none := by kernel_rfl
@[go_sem] theorem tSize106 : tSize Try.prog 106 = some 1 := by kernel_rfl
@[go_sem] theorem tKind106 : tKind Try.prog 106 = some (.int .u8) := by kernel_rfl
@[go_sem] theorem tZero106 : tZero Try.prog 106 = some (.int .u8 0) := by kernel_rfl
@[go_sem] theorem tAgg107 : tAgg Try.prog 107 = some none := by kernel_rfl
@[go_sem] theorem tSize107 : tSize Try.prog 107 = some 1 := by kernel_rfl
@[go_sem] theorem tKind107 : tKind Try.prog 107 = some (.int .u8) := by kernel_rfl
@[go_sem] theorem tZero107 : tZero Try.prog 107 = some (.int .u8 0) := by kernel_rfl
@[go_sem] theorem tAgg109 : tAgg Try.prog 109 = some none := by kernel_rfl
@[go_sem] theorem tSize109 : tSize Try.prog 109 = some 1 := by kernel_rfl
@[go_sem] theorem tKind109 : tKind Try.prog 109 = some .ptr := by kernel_rfl
@[go_sem] theorem tZero109 : tZero Try.prog 109 = some (.pointer none) := by kernel_rfl
@[go_sem] theorem tAgg110 : tAgg Try.prog 110 = some none := by kernel_rfl
@[go_sem] theorem tSize110 : tSize Try.prog 110 = some 1 := by kernel_rfl
@[go_sem] theorem tKind110 : tKind Try.prog 110 = some (.int .i32) := by kernel_rfl
@[go_sem] theorem tZero110 : tZero Try.prog 110 = some (.int .i32 0) := by kernel_rfl
@[go_sem] theorem tAgg111 : tAgg Try.prog 111 = some none := by kernel_rfl
@[go_sem] theorem tSize111 : tSize Try.prog 111 = some 1 := by kernel_rfl
@[go_sem] theorem tKind111 : tKind Try.prog 111 = some (.int .i32) := by kernel_rfl
@[go_sem] theorem tZero111 : tZero Try.prog 111 = some (.int .i32 0) := by kernel_rfl
@[go_sem] theorem tAgg112 : tAgg Try.prog 112 = some (some 11) := by kernel_rfl
@[go_sem] theorem tSize112 : tSize Try.prog 112 = some 11 := by kernel_rfl
@[go_sem] theorem tKind112 : tKind Try.prog 112 = some .oth := by kernel_rfl
@[go_sem] theorem tZero112 : tZero Try.prog 112 = some (.agg #[(.int .u64 0), (.int .u64 0), (.int .u32 0), (.int .u8 0), (.int .u8 0), (.int .u8 0), (.int .u8 0), .nilFunc, (.pointer none), (.int .i32 0), (.int .i32 0)]) := by kernel_rfl
@[go_sem] theorem tPlaces112 : tPlaces Try.prog 112 = some [(0, 1), (1, 1), (2, 1), (3, 1), (4, 1), (5, 1), (6, 1), (7, 1), (8, 1), (9, 1), (10, 1)] := by kernel_rfl
@[go_sem] theorem tField112_0 : tField Try.prog 112 0 = some (0, 12) := by kernel_rfl
@[go_sem] theorem tField112_1 : tField Try.prog 112 1 = some (1, 12) := by kernel_rfl
@[go_sem] theorem tField112_2 : tField Try.prog 112 2 = some (2, 105) := by kernel_rfl
@[go_sem] theorem tField112_3 : tField Try.prog 112 3 = some (3, 106) := by kernel_rfl
@[go_sem] theorem tField112_4 : tField Try.prog 112 4 = some (4, 5) := by kernel_rfl
@[go_sem] theorem tField112_5 : tField Try.prog 112 5 = some (5, 5) := by kernel_rfl
@[go_sem] theorem tField112_6 : tField Try.prog 112 6 = some (6, 107) := by kernel_rfl
@[go_sem] theorem tField112_7 : tField Try.prog 112 7 = some (7, 108) := by kernel_rfl
@[go_sem] theorem tField112_8 : tField Try.prog 112 8 = some (8, 109) := by kernel_rfl
@[go_sem] theorem tField112_9 : tField Try.prog 112 9 = some (9, 110) := by kernel_rfl
@[go_sem] theorem tField112_10 : tField Try.prog 112 10 = some (10, 111) := by kernel_rfl
@[go_sem] theorem tAgg113 : tAgg Try.prog 113 = some (some 11) := by kernel_rfl
@[go_sem] theorem tSize113 : tSize Try.prog 113 = some 11 := by kernel_rfl
@[go_sem] theorem tKind113 : tKind Try.prog 113 = some .oth := by kernel_rfl
@[go_sem] theorem tZero113 : tZero Try.prog 113 = some (.agg #[(.int .u64 0), (.int .u64 0), (.int .u32 0), (.int .u8 0), (.int .u8 0), (.int .u8 0), (.int .u8 0), .nilFunc, (.pointer none), (.int .i32 0), (.int .i32 0)]) := by kernel_rfl
@[go_sem] theorem tPlaces113 : tPlaces Try.prog 113 = some [(0, 1), (1, 1), (2, 1), (3, 1), (4, 1), (5, 1), (6, 1), (7, 1), (8, 1), (9, 1), (10, 1)] := by kernel_rfl
@[go_sem] theorem tField113_0 : tField Try.prog 113 0 = some (0, 12) := by kernel_rfl
@[go_sem] theorem tField113_1 : tField Try.prog 113 1 = some (1, 12) := by kernel_rfl
@[go_sem] theorem tField113_2 : tField Try.prog 113 2 = some (2, 105) := by kernel_rfl
@[go_sem] theorem tField113_3 : tField Try.prog 113 3 = some (3, 106) := by kernel_rfl
@[go_sem] theorem tField113_4 : tField Try.prog 113 4 = some (4, 5) := by kernel_rfl
@[go_sem] theorem tField113_5 : tField Try.prog 113 5 = some (5, 5) := by kernel_rfl
@[go_sem] theorem tField113_6 : tField Try.prog 113 6 = some (6, 107) := by kernel_rfl
@[go_sem] theorem tField113_7 : tField Try.prog 113 7 = some (7, 108) := by kernel_rfl
@[go_sem] theorem tField113_8 : tField Try.prog 113 8 = some (8, 109) := by kernel_rfl
@[go_sem] theorem tField113_9 : tField Try.prog 113 9 = some (9, 110) := by kernel_rfl
@[go_sem] theorem tField113_10 : tField Try.prog 113 10 = some (10, 111) := by kernel_rfl
theorem mixed : Try.prog.follows .mixedOrders = true := by kernel_rfl

end Go.Proofs.Ytnmfnekfobbabaa.AM
