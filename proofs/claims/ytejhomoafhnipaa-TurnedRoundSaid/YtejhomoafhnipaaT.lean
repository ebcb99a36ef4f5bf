/- Of each type of the translation: cells, elements, zero values, fields. Written by wip/tools/types.py. No condition. -/
import Derived.Test.YtejhomoafhnipaaAC
import Derived.Test.YtejhomoafhnipaaProg
import Derived.KernelRfl
namespace Go.Proofs.Ytejhomoafhnipaa.AM
open Go Go.RowKit

@[go_sem] theorem tAgg1 : tAgg Try.prog 1 = some none := by kernel_rfl
@[go_sem] theorem tSize1 : tSize Try.prog 1 = some 1 := by kernel_rfl
@[go_sem] theorem tKind1 : tKind Try.prog 1 = some .oth := by kernel_rfl
@[go_sem] theorem tZero1 : tZero Try.prog 1 = some .nilFunc := by kernel_rfl
@[go_sem] theorem tAgg2 : tAgg Try.prog 2 = some none := by kernel_rfl
@[go_sem] theorem tSize2 : tSize Try.prog 2 = some 1 := by kernel_rfl
@[go_sem] theorem tKind2 : tKind Try.prog 2 = some (.int .i64) := by kernel_rfl
@[go_sem] theorem tZero2 : tZero Try.prog 2 = some (.int .i64 0) := by kernel_rfl
@[go_sem] theorem tAgg3 : tAgg Try.prog 3 = some none := by kernel_rfl
@[go_sem] theorem tSize3 : tSize Try.prog 3 = some 1 := by kernel_rfl
@[go_sem] theorem tKind3 : tKind Try.prog 3 = some (.int .i64) := by kernel_rfl
@[go_sem] theorem tZero3 : tZero Try.prog 3 = some (.int .i64 0) := by kernel_rfl
@[go_sem] theorem tAgg4 : tAgg Try.prog 4 = some none := by kernel_rfl
@[go_sem] theorem tSize4 : tSize Try.prog 4 = some 1 := by kernel_rfl
@[go_sem] theorem tKind4 : tKind Try.prog 4 = some .bool := by kernel_rfl
@[go_sem] theorem tZero4 : tZero Try.prog 4 = some (.bool false) := by kernel_rfl
@[go_sem] theorem tAgg5 : tAgg Try.prog 5 = some none := by kernel_rfl
@[go_sem] theorem tSize5 : tSize Try.prog 5 = some 1 := by kernel_rfl
@[go_sem] theorem tKind5 : tKind Try.prog 5 = some (.int .u8) := by kernel_rfl
@[go_sem] theorem tZero5 : tZero Try.prog 5 = some (.int .u8 0) := by kernel_rfl
@[go_sem] theorem tAgg6 : tAgg Try.prog 6 = some none := by kernel_rfl
@[go_sem] theorem tSize6 : tSize Try.prog 6 = some 1 := by kernel_rfl
@[go_sem] theorem tKind6 : tKind Try.prog 6 = some (.int .u8) := by kernel_rfl
@[go_sem] theorem tZero6 : tZero Try.prog 6 = some (.int .u8 0) := by kernel_rfl
@[go_sem] theorem tAgg7 : tAgg Try.prog 7 = some (some 4) := by kernel_rfl
@[go_sem] theorem tSize7 : tSize Try.prog 7 = some 4 := by kernel_rfl
@[go_sem] theorem tKind7 : tKind Try.prog 7 = some .oth := by kernel_rfl
@[go_sem] theorem tZero7 : tZero Try.prog 7 = some (.agg #[(.int .i64 0), (.int .i64 0), (.bool false), (.int .u8 0)]) := by kernel_rfl
@[go_sem] theorem tPlaces7 : tPlaces Try.prog 7 = some [(0, 1), (1, 1), (2, 1), (3, 1)] := by kernel_rfl
@[go_sem] theorem tField7_0 : tField Try.prog 7 0 = some (0, 2) := by kernel_rfl
@[go_sem] theorem tField7_1 : tField Try.prog 7 1 = some (1, 3) := by kernel_rfl
@[go_sem] theorem tField7_2 : tField Try.prog 7 2 = some (2, 4) := by kernel_rfl
@[go_sem] theorem tField7_3 : tField Try.prog 7 3 = some (3, 6) := by kernel_rfl
@[go_sem] theorem tAgg8 : tAgg Try.prog 8 = some (some 4) := by kernel_rfl
@[go_sem] theorem tSize8 : tSize Try.prog 8 = some 4 := by kernel_rfl
@[go_sem] theorem tKind8 : tKind Try.prog 8 = some .oth := by kernel_rfl
@[go_sem] theorem tZero8 : tZero Try.prog 8 = some (.agg #[(.int .i64 0), (.int .i64 0), (.bool false), (.int .u8 0)]) := by kernel_rfl
@[go_sem] theorem tPlaces8 : tPlaces Try.prog 8 = some [(0, 1), (1, 1), (2, 1), (3, 1)] := by kernel_rfl
@[go_sem] theorem tField8_0 : tField Try.prog 8 0 = some (0, 2) := by kernel_rfl
@[go_sem] theorem tField8_1 : tField Try.prog 8 1 = some (1, 3) := by kernel_rfl
@[go_sem] theorem tField8_2 : tField Try.prog 8 2 = some (2, 4) := by kernel_rfl
@[go_sem] theorem tField8_3 : tField Try.prog 8 3 = some (3, 6) := by kernel_rfl
@[go_sem] theorem tAgg9 : tAgg Try.prog 9 = some none := by kernel_rfl
@[go_sem] theorem tSize9 : tSize Try.prog 9 = some 1 := by kernel_rfl
@[go_sem] theorem tKind9 : tKind Try.prog 9 = some .str := by kernel_rfl
@[go_sem] theorem tZero9 : tZero Try.prog 9 = some (.string ⟨#[]⟩) := by kernel_rfl
@[go_sem] theorem tAgg10 : tAgg Try.prog 10 = some none := by kernel_rfl
@[go_sem] theorem tSize10 : tSize Try.prog 10 = some 1 := by kernel_rfl
@[go_sem] theorem tKind10 : tKind Try.prog 10 = some .str := by kernel_rfl
@[go_sem] theorem tZero10 : tZero Try.prog 10 = some (.string ⟨#[]⟩) := by kernel_rfl
@[go_sem] theorem tAgg11 : tAgg Try.prog 11 = some none := by kernel_rfl
@[go_sem] theorem tSize11 : tSize Try.prog 11 = some 1 := by kernel_rfl
@[go_sem] theorem tKind11 : tKind Try.prog 11 = some .str := by kernel_rfl
@[go_sem] theorem tZero11 : tZero Try.prog 11 = some (.string ⟨#[]⟩) := by kernel_rfl
@[go_sem] theorem tAgg12 : tAgg Try.prog 12 = some none := by kernel_rfl
@[go_sem] theorem tSize12 : tSize Try.prog 12 = some 1 := by kernel_rfl
@[go_sem] theorem tKind12 : tKind Try.prog 12 = some (.int .u64) := by kernel_rfl
@[go_sem] theorem tZero12 : tZero Try.prog 12 = some (.int .u64 0) := by kernel_rfl
@[go_sem] theorem tAgg13 : tAgg Try.prog 13 = some (some 2) := by kernel_rfl
@[go_sem] theorem tSize13 : tSize Try.prog 13 = some 2 := by kernel_rfl
@[go_sem] theorem tKind13 : tKind Try.prog 13 = some .oth := by kernel_rfl
@[go_sem] theorem tZero13 : tZero Try.prog 13 = some (.agg #[(.string ⟨#[]⟩), (.int .u64 0)]) := by kernel_rfl
@[go_sem] theorem tPlaces13 : tPlaces Try.prog 13 = some [(0, 1), (1, 1)] := by kernel_rfl
@[go_sem] theorem tField13_0 : tField Try.prog 13 0 = some (0, 9) := by kernel_rfl
@[go_sem] theorem tField13_1 : tField Try.prog 13 1 = some (1, 12) := by kernel_rfl
@[go_sem] theorem tAgg14 : tAgg Try.prog 14 = some (some 2) := by kernel_rfl
@[go_sem] theorem tSize14 : tSize Try.prog 14 = some 2 := by kernel_rfl
@[go_sem] theorem tKind14 : tKind Try.prog 14 = some .oth := by kernel_rfl
@[go_sem] theorem tZero14 : tZero Try.prog 14 = some (.agg #[(.string ⟨#[]⟩), (.int .u64 0)]) := by kernel_rfl
@[go_sem] theorem tPlaces14 : tPlaces Try.prog 14 = some [(0, 1), (1, 1)] := by kernel_rfl
@[go_sem] theorem tField14_0 : tField Try.prog 14 0 = some (0, 9) := by kernel_rfl
@[go_sem] theorem tField14_1 : tField Try.prog 14 1 = some (1, 12) := by kernel_rfl
@[go_sem] theorem tAgg15 : tAgg Try.prog 15 = some none := by kernel_rfl
@[go_sem] theorem tSize15 : tSize Try.prog 15 = some 1 := by kernel_rfl
@[go_sem] theorem tKind15 : tKind Try.prog 15 = some .ptr := by kernel_rfl
@[go_sem] theorem tZero15 : tZero Try.prog 15 = some (.pointer none) := by kernel_rfl
@[go_sem] theorem tAgg16 : tAgg Try.prog 16 = some none := by kernel_rfl
@[go_sem] theorem tSize16 : tSize Try.prog 16 = some 1 := by kernel_rfl
@[go_sem] theorem tKind16 : tKind Try.prog 16 = some .ptr := by kernel_rfl
@[go_sem] theorem tZero16 : tZero Try.prog 16 = some (.pointer none) := by kernel_rfl
@[go_sem] theorem tAgg17 : tAgg Try.prog 17 = some none := by kernel_rfl
@[go_sem] theorem tSize17 : tSize Try.prog 17 = some 1 := by kernel_rfl
@[go_sem] theorem tKind17 : tKind Try.prog 17 = some .ptr := by kernel_rfl
@[go_sem] theorem tZero17 : tZero Try.prog 17 = some (.pointer none) := by kernel_rfl
@[go_sem] theorem tAgg18 : tAgg Try.prog 18 = some (some 1) := by kernel_rfl
@[go_sem] theorem tSize18 : tSize Try.prog 18 = some 1 := by kernel_rfl
@[go_sem] theorem tKind18 : tKind Try.prog 18 = some .oth := by kernel_rfl
@[go_sem] theorem tZero18 : tZero Try.prog 18 = some (.agg #[(.pointer none)]) := by kernel_rfl
@[go_sem] theorem tPlaces18 : tPlaces Try.prog 18 = some [(0, 1)] := by kernel_rfl
@[go_sem] theorem tField18_0 : tField Try.prog 18 0 = some (0, 17) := by kernel_rfl
@[go_sem] theorem tAgg19 : tAgg Try.prog 19 = some (some 1) := by kernel_rfl
@[go_sem] theorem tSize19 : tSize Try.prog 19 = some 1 := by kernel_rfl
@[go_sem] theorem tKind19 : tKind Try.prog 19 = some .oth := by kernel_rfl
@[go_sem] theorem tZero19 : tZero Try.prog 19 = some (.agg #[(.pointer none)]) := by kernel_rfl
@[go_sem] theorem tPlaces19 : tPlaces Try.prog 19 = some [(0, 1)] := by kernel_rfl
@[go_sem] theorem tField19_0 : tField Try.prog 19 0 = some (0, 17) := by kernel_rfl
@[go_sem] theorem tAgg21 : tAgg Try.prog 21 = some none := by kernel_rfl
@[go_sem] theorem tSize21 : tSize Try.prog 21 = some 1 := by kernel_rfl
@[go_sem] theorem tKind21 : tKind Try.prog 21 = some (.int .i32) := by kernel_rfl
@[go_sem] theorem tZero21 : tZero Try.prog 21 = some (.int .i32 0) := by kernel_rfl
@[go_sem] theorem tAgg22 : tAgg Try.prog 22 = some none := by kernel_rfl
@[go_sem] theorem tSize22 : tSize Try.prog 22 = some 1 := by kernel_rfl
@[go_sem] theorem tKind22 : tKind Try.prog 22 = some .slc := by kernel_rfl
@[go_sem] theorem tZero22 : tZero Try.prog 22 = some (.slice none 0 0) := by kernel_rfl
@[go_sem] theorem tElem22 : tElem Try.prog 22 = some ⟨3, 1, 8, (.int .i64 0)⟩ := by kernel_rfl
@[go_sem] theorem tAgg23 : tAgg Try.prog 23 = some none := by kernel_rfl
@[go_sem] theorem tSize23 : tSize Try.prog 23 = some 1 := by kernel_rfl
@[go_sem] theorem tKind23 : tKind Try.prog 23 = some .oth := by kernel_rfl
@[go_sem] theorem tZero23 : tZero Try.prog 23 = some .nilFunc := by kernel_rfl
@[go_sem] theorem tAgg24 : tAgg Try.prog 24 = some none := by kernel_rfl
@[go_sem] theorem tSize24 : tSize Try.prog 24 = some 1 := by kernel_rfl
@[go_sem] theorem tKind24 : tKind Try.prog 24 = some .oth := by kernel_rfl
@[go_sem] theorem tZero24 : tZero Try.prog 24 = some .nilFunc := by kernel_rfl
@[go_sem] theorem tAgg25 : tAgg Try.prog 25 = some none := by kernel_rfl
@[go_sem] theorem tSize25 : tSize Try.prog 25 = some 1 := by kernel_rfl
@[go_sem] theorem tKind25 : tKind Try.prog 25 = some .oth := by kernel_rfl
@[go_sem] theorem tZero25 : tZero Try.prog 25 = some .nilFunc := by kernel_rfl
@[go_sem] theorem tAgg26 : tAgg Try.prog 26 = some none := by kernel_rfl
@[go_sem] theorem tSize26 : tSize Try.prog 26 = some 1 := by kernel_rfl
@[go_sem] theorem tKind26 : tKind Try.prog 26 = some (.int .i64) := by kernel_rfl
@[go_sem] theorem tZero26 : tZero Try.prog 26 = some (.int .i64 0) := by kernel_rfl
@[go_sem] theorem tAgg28 : tAgg Try.prog 28 = some none := by kernel_rfl
@[go_sem] theorem tSize28 : tSize Try.prog 28 = some 1 := by kernel_rfl
@[go_sem] theorem tKind28 : tKind Try.prog 28 = some .oth := by kernel_rfl
@[go_sem] theorem tZero28 : tZero Try.prog 28 = some .nilFunc := by kernel_rfl
@[go_sem] theorem tAgg29 : tAgg Try.prog 29 = some none := by kernel_rfl
@[go_sem] theorem tSize29 : tSize Try.prog 29 = some 1 := by kernel_rfl
@[go_sem] theorem tKind29 : tKind Try.prog 29 = some .oth := by kernel_rfl
@[go_sem] theorem tZero29 : tZero Try.prog 29 = some .nilFunc := by kernel_rfl
@[go_sem] theorem tAgg30 : tAgg Try.prog 30 = some none := by kernel_rfl
@[go_sem] theorem tSize30 : tSize Try.prog 30 = some 1 := by kernel_rfl
@[go_sem] theorem tKind30 : tKind Try.prog 30 = some .oth := by kernel_rfl
@[go_sem] theorem tZero30 : tZero Try.prog 30 = some .nilFunc := by kernel_rfl
@[go_sem] theorem tAgg31 : tAgg Try.prog 31 = some none := by kernel_rfl
@[go_sem] theorem tSize31 : tSize Try.prog 31 = some 1 := by kernel_rfl
@[go_sem] theorem tKind31 : tKind Try.prog 31 = some .oth := by kernel_rfl
@[go_sem] theorem tZero31 : tZero Try.prog 31 = some .nilFunc := by kernel_rfl
@[go_sem] theorem tAgg32 : tAgg Try.prog 32 = some (some 3) := by kernel_rfl
@[go_sem] theorem tSize32 : tSize Try.prog 32 = some 3 := by kernel_rfl
@[go_sem] theorem tKind32 : tKind Try.prog 32 = some .oth := by kernel_rfl
@[go_sem] theorem tZero32 : tZero Try.prog 32 = some (.agg #[(.int .i64 0), (.bool false), (.slice none 0 0)]) := by kernel_rfl
@[go_sem] theorem tPlaces32 : tPlaces Try.prog 32 = some [(0, 1), (1, 1), (2, 1)] := by kernel_rfl
@[go_sem] theorem tField32_0 : tField Try.prog 32 0 = some (0, 3) := by kernel_rfl
@[go_sem] theorem tField32_1 : tField Try.prog 32 1 = some (1, 4) := by kernel_rfl
@[go_sem] theorem tField32_2 : tField Try.prog 32 2 = some (2, 22) := by kernel_rfl
@[go_sem] theorem tAgg33 : tAgg Try.prog 33 = some (some 3) := by kernel_rfl
@[go_sem] theorem tSize33 : tSize Try.prog 33 = some 3 := by kernel_rfl
@[go_sem] theorem tKind33 : tKind Try.prog 33 = some .oth := by kernel_rfl
@[go_sem] theorem tZero33 : tZero Try.prog 33 = some (.agg #[(.int .i64 0), (.bool false), (.slice none 0 0)]) := by kernel_rfl
@[go_sem] theorem tPlaces33 : tPlaces Try.prog 33 = some [(0, 1), (1, 1), (2, 1)] := by kernel_rfl
@[go_sem] theorem tField33_0 : tField Try.prog 33 0 = some (0, 3) := by kernel_rfl
@[go_sem] theorem tField33_1 : tField Try.prog 33 1 = some (1, 4) := by kernel_rfl
@[go_sem] theorem tField33_2 : tField Try.prog 33 2 = some (2, 22) := by kernel_rfl
@[go_sem] theorem tAgg35 : tAgg Try.prog 35 = some none := by kernel_rfl
@[go_sem] theorem tSize35 : tSize Try.prog 35 = some 1 := by kernel_rfl
@[go_sem] theorem tKind35 : tKind Try.prog 35 = some .oth := by kernel_rfl
@[go_sem] theorem tZero35 : tZero Try.prog 35 = some .nilFunc := by kernel_rfl
@[go_sem] theorem tAgg36 : tAgg Try.prog 36 = some none := by kernel_rfl
@[go_sem] theorem tSize36 : tSize Try.prog 36 = some 1 := by kernel_rfl
@[go_sem] theorem tKind36 : tKind Try.prog 36 = some .oth := by kernel_rfl
@[go_sem] theorem tZero36 : tZero Try.prog 36 = some .nilFunc := by kernel_rfl
@[go_sem] theorem tAgg37 : tAgg Try.prog 37 = some none := by kernel_rfl
@[go_sem] theorem tSize37 : tSize Try.prog 37 = some 1 := by kernel_rfl
@[go_sem] theorem tKind37 : tKind Try.prog 37 = some .oth := by kernel_rfl
@[go_sem] theorem tZero37 : tZero Try.prog 37 = some .nilFunc := by kernel_rfl
@[go_sem] theorem tAgg38 : tAgg Try.prog 38 = some none := by kernel_rfl
@[go_sem] theorem tSize38 : tSize Try.prog 38 = some 1 := by kernel_rfl
@[go_sem] theorem tKind38 : tKind Try.prog 38 = some .slc := by kernel_rfl
@[go_sem] theorem tZero38 : tZero Try.prog 38 = some (.slice none 0 0) := by kernel_rfl
@[go_sem] theorem tElem38 : tElem Try.prog 38 = some ⟨4, 1, 1, (.bool false)⟩ := by kernel_rfl
@[go_sem] theorem tAgg39 : tAgg Try.prog 39 = some none := by kernel_rfl
@[go_sem] theorem tSize39 : tSize Try.prog 39 = some 1 := by kernel_rfl
@[go_sem] theorem tKind39 : tKind Try.prog 39 = some .oth := by kernel_rfl
@[go_sem] theorem tZero39 : tZero Try.prog 39 = some .nilFunc := by kernel_rfl
@[go_sem] theorem tAgg40 : tAgg Try.prog 40 = some (some 2) := by kernel_rfl
@[go_sem] theorem tSize40 : tSize Try.prog 40 = some 2 := by kernel_rfl
@[go_sem] theorem tKind40 : tKind Try.prog 40 = some .oth := by kernel_rfl
@[go_sem] theorem tZero40 : tZero Try.prog 40 = some (.agg #[(.int .i64 0), (.int .i64 0)]) := by kernel_rfl
@[go_sem] theorem tArr40 : tArr Try.prog 40 = some (2, 3, 1) := by kernel_rfl
@[go_sem] theorem tAgg41 : tAgg Try.prog 41 = some none := by kernel_rfl
@[go_sem] theorem tSize41 : tSize Try.prog 41 = some 1 := by kernel_rfl
@[go_sem] theorem tKind41 : tKind Try.prog 41 = some .oth := by kernel_rfl
@[go_sem] theorem tZero41 : tZero Try.prog 41 = some .nilFunc := by kernel_rfl
@[go_sem] theorem tAgg42 : tAgg Try.prog 42 = some none := by kernel_rfl
@[go_sem] theorem tSize42 : tSize Try.prog 42 = some 1 := by kernel_rfl
@[go_sem] theorem tKind42 : tKind Try.prog 42 = some .oth := by kernel_rfl
@[go_sem] theorem tZero42 : tZero Try.prog 42 = some .nilFunc := by kernel_rfl
@[go_sem] theorem tAgg43 : tAgg Try.prog 43 = some none := by kernel_rfl
@[go_sem] theorem tSize43 : tSize Try.prog 43 = some 1 := by kernel_rfl
@[go_sem] theorem tKind43 : tKind Try.prog 43 = some .oth := by kernel_rfl
@[go_sem] theorem tZero43 : tZero Try.prog 43 = some .nilFunc := by kernel_rfl
@[go_sem] theorem tAgg44 : tAgg Try.prog 44 = some none := by kernel_rfl
@[go_sem] theorem tSize44 : tSize Try.prog 44 = some 1 := by kernel_rfl
@[go_sem] theorem tKind44 : tKind Try.prog 44 = some .oth := by kernel_rfl
@[go_sem] theorem tZero44 : tZero Try.prog 44 = some .nilFunc := by kernel_rfl
@[go_sem] theorem tAgg45 : tAgg Try.prog 45 = some none := by kernel_rfl
@[go_sem] theorem tSize45 : tSize Try.prog 45 = some 1 := by kernel_rfl
@[go_sem] theorem tKind45 : tKind Try.prog 45 = some .oth := by kernel_rfl
@[go_sem] theorem tZero45 : tZero Try.prog 45 = some .nilFunc := by kernel_rfl
@[go_sem] theorem tAgg47 : tAgg Try.prog 47 = some none := by kernel_rfl
@[go_sem] theorem tSize47 : tSize Try.prog 47 = some 1 := by kernel_rfl
@[go_sem] theorem tKind47 : tKind Try.prog 47 = some .oth := by kernel_rfl
@[go_sem] theorem tZero47 : tZero Try.prog 47 = some .nilFunc := by kernel_rfl
@[go_sem] theorem tAgg48 : tAgg Try.prog 48 = some none := by kernel_rfl
@[go_sem] theorem tSize48 : tSize Try.prog 48 = some 1 := by kernel_rfl
@[go_sem] theorem tKind48 : tKind Try.prog 48 = some .oth := by kernel_rfl
@[go_sem] theorem tZero48 : tZero Try.prog 48 = some .nilFunc := by kernel_rfl
@[go_sem] theorem tAgg49 : tAgg Try.prog 49 = some none := by kernel_rfl
@[go_sem] theorem tSize49 : tSize Try.prog 49 = some 1 := by kernel_rfl
@[go_sem] theorem tKind49 : tKind Try.prog 49 = some .oth := by kernel_rfl
@[go_sem] theorem tZero49 : tZero Try.prog 49 = some .nilFunc := by kernel_rfl
@[go_sem] theorem tAgg50 : tAgg Try.prog 50 = some none := by kernel_rfl
@[go_sem] theorem tSize50 : tSize Try.prog 50 = some 1 := by kernel_rfl
@[go_sem] theorem tKind50 : tKind Try.prog 50 = some .oth := by kernel_rfl
@[go_sem] theorem tZero50 : tZero Try.prog 50 = some .nilFunc := by kernel_rfl
@[go_sem] theorem tAgg51 : tAgg Try.prog 51 = some none := by kernel_rfl
@[go_sem] theorem tSize51 : tSize Try.prog 51 = some 1 := by kernel_rfl
@[go_sem] theorem tKind51 : tKind Try.prog 51 = some .oth := by kernel_rfl
@[go_sem] theorem tZero51 : tZero Try.prog 51 = some .nilFunc := by kernel_rfl
@[go_sem] theorem tAgg52 : tAgg Try.prog 52 = some none := by kernel_rfl
@[go_sem] theorem tSize52 : tSize Try.prog 52 = some 1 := by kernel_rfl
@[go_sem] theorem tKind52 : tKind Try.prog 52 = some .oth := by kernel_rfl
@[go_sem] theorem tZero52 : tZero Try.prog 52 = some .nilFunc := by kernel_rfl
@[go_sem] theorem tAgg53 : tAgg Try.prog 53 = some none := by kernel_rfl
@[go_sem] theorem tSize53 : tSize Try.prog 53 = some 1 := by kernel_rfl
@[go_sem] theorem tKind53 : tKind Try.prog 53 = some .slc := by kernel_rfl
@[go_sem] theorem tZero53 : tZero Try.prog 53 = some (.slice none 0 0) := by kernel_rfl
@[go_sem] theorem tElem53 : tElem Try.prog 53 = some ⟨55, 2, 48, (.agg #[(.slice none 0 0), (.slice none 0 0)])⟩ := by kernel_rfl
@[go_sem] theorem tAgg54 : tAgg Try.prog 54 = some (some 2) := by kernel_rfl
@[go_sem] theorem tSize54 : tSize Try.prog 54 = some 2 := by kernel_rfl
@[go_sem] theorem tKind54 : tKind Try.prog 54 = some .oth := by kernel_rfl
@[go_sem] theorem tZero54 : tZero Try.prog 54 = some (.agg #[(.slice none 0 0), (.slice none 0 0)]) := by kernel_rfl
@[go_sem] theorem tPlaces54 : tPlaces Try.prog 54 = some [(0, 1), (1, 1)] := by kernel_rfl
@[go_sem] theorem tField54_0 : tField Try.prog 54 0 = some (0, 22) := by kernel_rfl
@[go_sem] theorem tField54_1 : tField Try.prog 54 1 = some (1, 22) := by kernel_rfl
@[go_sem] theorem tAgg55 : tAgg Try.prog 55 = some (some 2) := by kernel_rfl
@[go_sem] theorem tSize55 : tSize Try.prog 55 = some 2 := by kernel_rfl
@[go_sem] theorem tKind55 : tKind Try.prog 55 = some .oth := by kernel_rfl
@[go_sem] theorem tZero55 : tZero Try.prog 55 = some (.agg #[(.slice none 0 0), (.slice none 0 0)]) := by kernel_rfl
@[go_sem] theorem tPlaces55 : tPlaces Try.prog 55 = some [(0, 1), (1, 1)] := by kernel_rfl
@[go_sem] theorem tField55_0 : tField Try.prog 55 0 = some (0, 22) := by kernel_rfl
@[go_sem] theorem tField55_1 : tField Try.prog 55 1 = some (1, 22) := by kernel_rfl
@[go_sem] theorem tAgg56 : tAgg Try.prog 56 = some none := by kernel_rfl
@[go_sem] theorem tSize56 : tSize Try.prog 56 = some 1 := by kernel_rfl
@[go_sem] theorem tKind56 : tKind Try.prog 56 = some .oth := by kernel_rfl
@[go_sem] theorem tZero56 : tZero Try.prog 56 = some .nilFunc := by kernel_rfl
@[go_sem] theorem tAgg57 : tAgg Try.prog 57 = some none := by kernel_rfl
@[go_sem] theorem tSize57 : tSize Try.prog 57 = some 1 := by kernel_rfl
@[go_sem] theorem tKind57 : tKind Try.prog 57 = some .oth := by kernel_rfl
@[go_sem] theorem tZero57 : tZero Try.prog 57 = some .nilFunc := by kernel_rfl
@[go_sem] theorem tAgg58 : tAgg Try.prog 58 = some none := by kernel_rfl
@[go_sem] theorem tSize58 : tSize Try.prog 58 = some 1 := by kernel_rfl
@[go_sem] theorem tKind58 : tKind Try.prog 58 = some .oth := by kernel_rfl
@[go_sem] theorem tZero58 : tZero Try.prog 58 = some .nilFunc := by kernel_rfl
@[go_sem] theorem tAgg59 : tAgg Try.prog 59 = some none := by kernel_rfl
@[go_sem] theorem tSize59 : tSize Try.prog 59 = some 1 := by kernel_rfl
@[go_sem] theorem tKind59 : tKind Try.prog 59 = some .oth := by kernel_rfl
@[go_sem] theorem tZero59 : tZero Try.prog 59 = some .nilFunc := by kernel_rfl
@[go_sem] theorem tAgg60 : tAgg Try.prog 60 = some none := by kernel_rfl
@[go_sem] theorem tSize60 : tSize Try.prog 60 = some 1 := by kernel_rfl
@[go_sem] theorem tKind60 : tKind Try.prog 60 = some .oth := by kernel_rfl
@[go_sem] theorem tZero60 : tZero Try.prog 60 = some .nilFunc := by kernel_rfl
@[go_sem] theorem tAgg61 : tAgg Try.prog 61 = some none := by kernel_rfl
@[go_sem] theorem tSize61 : tSize Try.prog 61 = some 1 := by kernel_rfl
@[go_sem] theorem tKind61 : tKind Try.prog 61 = some .oth := by kernel_rfl
@[go_sem] theorem tZero61 : tZero Try.prog 61 = some .nilFunc := by kernel_rfl
@[go_sem] theorem tAgg62 : tAgg Try.prog 62 = some none := by kernel_rfl
@[go_sem] theorem tSize62 : tSize Try.prog 62 = some 1 := by kernel_rfl
@[go_sem] theorem tKind62 : tKind Try.prog 62 = some .oth := by kernel_rfl
@[go_sem] theorem tZero62 : tZero Try.prog 62 = some .nilFunc := by kernel_rfl
@[go_sem] theorem tAgg63 : tAgg Try.prog 63 = some none := by kernel_rfl
@[go_sem] theorem tSize63 : tSize Try.prog 63 = some 1 := by kernel_rfl
@[go_sem] theorem tKind63 : tKind Try.prog 63 = some .oth := by kernel_rfl
@[go_sem] theorem tZero63 : tZero Try.prog 63 = some .nilFunc := by kernel_rfl
@[go_sem] theorem tAgg64 : tAgg Try.prog 64 = some none := by kernel_rfl
@[go_sem] theorem tSize64 : tSize Try.prog 64 = some 1 := by kernel_rfl
@[go_sem] theorem tKind64 : tKind Try.prog 64 = some .oth := by kernel_rfl
@[go_sem] theorem tZero64 : tZero Try.prog 64 = some .nilFunc := by kernel_rfl
@[go_sem] theorem tAgg66 : tAgg Try.prog 66 = some none := by kernel_rfl
@[go_sem] theorem tSize66 : tSize Try.prog 66 = some 1 := by kernel_rfl
@[go_sem] theorem tKind66 : tKind Try.prog 66 = some .oth := by kernel_rfl
@[go_sem] theorem tZero66 : tZero Try.prog 66 = some .nilFunc := by kernel_rfl
@[go_sem] theorem tAgg67 : tAgg Try.prog 67 = some none := by kernel_rfl
@[go_sem] theorem tSize67 : tSize Try.prog 67 = some 1 := by kernel_rfl
@[go_sem] theorem tKind67 : tKind Try.prog 67 = some .oth := by kernel_rfl
@[go_sem] theorem tZero67 : tZero Try.prog 67 = some .nilFunc := by kernel_rfl
@[go_sem] theorem tAgg68 : tAgg Try.prog 68 = some none := by kernel_rfl
@[go_sem] theorem tSize68 : tSize Try.prog 68 = some 1 := by kernel_rfl
@[go_sem] theorem tKind68 : tKind Try.prog 68 = some .oth := by kernel_rfl
@[go_sem] theorem tZero68 : tZero Try.prog 68 = some .nilFunc := by kernel_rfl
@[go_sem] theorem tAgg69 : tAgg Try.prog 69 = some none := by kernel_rfl
@[go_sem] theorem tSize69 : tSize Try.prog 69 = some 1 := by kernel_rfl
@[go_sem] theorem tKind69 : tKind Try.prog 69 = some .oth := by kernel_rfl
@[go_sem] theorem tZero69 : tZero Try.prog 69 = some .nilFunc := by kernel_rfl
@[go_sem] theorem tAgg70 : tAgg Try.prog 70 = some none := by kernel_rfl
@[go_sem] theorem tSize70 : tSize Try.prog 70 = some 1 := by kernel_rfl
@[go_sem] theorem tKind70 : tKind Try.prog 70 = some (.int .u64) := by kernel_rfl
@[go_sem] theorem tZero70 : tZero Try.prog 70 = some (.int .u64 0) := by kernel_rfl
@[go_sem] theorem tAgg72 : tAgg Try.prog 72 = some none := by kernel_rfl
@[go_sem] theorem tSize72 : tSize Try.prog 72 = some 1 := by kernel_rfl
@[go_sem] theorem tKind72 : tKind Try.prog 72 = some .oth := by kernel_rfl
@[go_sem] theorem tZero72 : tZero Try.prog 72 = some .nilFunc := by kernel_rfl
@[go_sem] theorem tAgg73 : tAgg Try.prog 73 = some none := by kernel_rfl
@[go_sem] theorem tSize73 : tSize Try.prog 73 = some 1 := by kernel_rfl
@[go_sem] theorem tKind73 : tKind Try.prog 73 = some .oth := by kernel_rfl
@[go_sem] theorem tZero73 : tZero Try.prog 73 = some .nilFunc := by kernel_rfl
@[go_sem] theorem tAgg74 : tAgg Try.prog 74 = some none := by kernel_rfl
@[go_sem] theorem tSize74 : tSize Try.prog 74 = some 1 := by kernel_rfl
@[go_sem] theorem tKind74 : tKind Try.prog 74 = some .oth := by kernel_rfl
@[go_sem] theorem tZero74 : tZero Try.prog 74 = some .nilFunc := by kernel_rfl
@[go_sem] theorem tAgg75 : tAgg Try.prog 75 = some none := by kernel_rfl
@[go_sem] theorem tSize75 : tSize Try.prog 75 = some 1 := by kernel_rfl
@[go_sem] theorem tKind75 : tKind Try.prog 75 = some .oth := by kernel_rfl
@[go_sem] theorem tZero75 : tZero Try.prog 75 = some .nilFunc := by kernel_rfl
@[go_sem] theorem tAgg76 : tAgg Try.prog 76 = some none := by kernel_rfl
@[go_sem] theorem tSize76 : tSize Try.prog 76 = some 1 := by kernel_rfl
@[go_sem] theorem tKind76 : tKind Try.prog 76 = some .oth := by kernel_rfl
@[go_sem] theorem tZero76 : tZero Try.prog 76 = some .nilFunc := by kernel_rfl
@[go_sem] theorem tAgg77 : tAgg Try.prog 77 = some none := by kernel_rfl
@[go_sem] theorem tSize77 : tSize Try.prog 77 = some 1 := by kernel_rfl
@[go_sem] theorem tKind77 : tKind Try.prog 77 = some (.int .u32) := by kernel_rfl
@[go_sem] theorem tZero77 : tZero Try.prog 77 = some (.int .u32 0) := by kernel_rfl
@[go_sem] theorem tAgg79 : tAgg Try.prog 79 = some none := by kernel_rfl
@[go_sem] theorem tSize79 : tSize Try.prog 79 = some 1 := by kernel_rfl
@[go_sem] theorem tKind79 : tKind Try.prog 79 = some .oth := by kernel_rfl
@[go_sem] theorem tZero79 : tZero Try.prog 79 = some .nilFunc := by kernel_rfl
@[go_sem] theorem tAgg80 : tAgg Try.prog 80 = some none := by kernel_rfl
@[go_sem] theorem tSize80 : tSize Try.prog 80 = some 1 := by kernel_rfl
@[go_sem] theorem tKind80 : tKind Try.prog 80 = some (.int .u64) := by kernel_rfl
@[go_sem] theorem tZero80 : tZero Try.prog 80 = some (.int .u64 0) := by kernel_rfl
@[go_sem] theorem tAgg82 : tAgg Try.prog 82 = some none := by kernel_rfl
@[go_sem] theorem tSize82 : tSize Try.prog 82 = some 1 := by kernel_rfl
@[go_sem] theorem tKind82 : tKind Try.prog 82 = some .oth := by kernel_rfl
@[go_sem] theorem tZero82 : tZero Try.prog 82 = some .nilFunc := by kernel_rfl
@[go_sem] theorem tAgg83 : tAgg Try.prog 83 = some none := by kernel_rfl
@[go_sem] theorem tSize83 : tSize Try.prog 83 = some 1 := by kernel_rfl
@[go_sem] theorem tKind83 : tKind Try.prog 83 = some .oth := by kernel_rfl
@[go_sem] theorem tZero83 : tZero Try.prog 83 = some .nilFunc := by kernel_rfl
@[go_sem] theorem tAgg84 : tAgg Try.prog 84 = some none := by kernel_rfl
@[go_sem] theorem tSize84 : tSize Try.prog 84 = some 1 := by kernel_rfl
@[go_sem] theorem tKind84 : tKind Try.prog 84 = some (.int .i64) := by kernel_rfl
@[go_sem] theorem tZero84 : tZero Try.prog 84 = some (.int .i64 0) := by kernel_rfl
@[go_sem] theorem tAgg86 : tAgg Try.prog 86 = some none := by kernel_rfl
@[go_sem] theorem tSize86 : tSize Try.prog 86 = some 1 := by kernel_rfl
@[go_sem] theorem tKind86 : tKind Try.prog 86 = some .oth := by kernel_rfl
@[go_sem] theorem tZero86 : tZero Try.prog 86 = some .nilFunc := by kernel_rfl
@[go_sem] theorem tAgg87 : tAgg Try.prog 87 = some none := by kernel_rfl
@[go_sem] theorem tSize87 : tSize Try.prog 87 = some 1 := by kernel_rfl
@[go_sem] theorem tKind87 : tKind Try.prog 87 = some .oth := by kernel_rfl
@[go_sem] theorem tZero87 : tZero Try.prog 87 = some .nilFunc := by kernel_rfl
@[go_sem] theorem tAgg88 : tAgg Try.prog 88 = some none := by kernel_rfl
@[go_sem] theorem tSize88 : tSize Try.prog 88 = some 1 := by kernel_rfl
@[go_sem] theorem tKind88 : tKind Try.prog 88 = some .oth := by kernel_rfl
@[go_sem] theorem tZero88 : tZero Try.prog 88 = some .nilFunc := by kernel_rfl
@[go_sem] theorem tAgg89 : tAgg Try.prog 89 = some none := by kernel_rfl
@[go_sem] theorem tSize89 : tSize Try.prog 89 = some 1 := by kernel_rfl
@[go_sem] theorem tKind89 : tKind Try.prog 89 = some .oth := by kernel_rfl
@[go_sem] theorem tZero89 : tZero Try.prog 89 = some .nilFunc := by kernel_rfl
@[go_sem] theorem tAgg90 : tAgg Try.prog 90 = some none := by kernel_rfl
@[go_sem] theorem tSize90 : tSize Try.prog 90 = some 1 := by kernel_rfl
@[go_sem] theorem tKind90 : tKind Try.prog 90 = some .oth := by kernel_rfl
@[go_sem] theorem tZero90 : tZero Try.prog 90 = some .nilFunc := by kernel_rfl
@[go_sem] theorem tAgg91 : tAgg Try.prog 91 = some none := by kernel_rfl
@[go_sem] theorem tSize91 : tSize Try.prog 91 = some 1 := by kernel_rfl
@[go_sem] theorem tKind91 : tKind Try.prog 91 = some (.int .u64) := by kernel_rfl
@[go_sem] theorem tZero91 : tZero Try.prog 91 = some (.int .u64 0) := by kernel_rfl
@[go_sem] theorem tAgg92 : tAgg Try.prog 92 = some none := by kernel_rfl
@[go_sem] theorem tSize92 : tSize Try.prog 92 = some 1 := by kernel_rfl
@[go_sem] theorem tKind92 : tKind Try.prog 92 = some .oth := by kernel_rfl
@[go_sem] theorem tZero92 : tZero Try.prog 92 = some .nilFunc := by kernel_rfl
@[go_sem] theorem tAgg93 : tAgg Try.prog 93 = some none := by kernel_rfl
@[go_sem] theorem tSize93 : tSize Try.prog 93 = some 1 := by kernel_rfl
@[go_sem] theorem tKind93 : tKind Try.prog 93 = some .oth := by kernel_rfl
@[go_sem] theorem tZero93 : tZero Try.prog 93 = some .nilFunc := by kernel_rfl
@[go_sem] theorem tAgg94 : tAgg Try.prog 94 = some none := by kernel_rfl
@[go_sem] theorem tSize94 : tSize Try.prog 94 = some 1 := by kernel_rfl
@[go_sem] theorem tKind94 : tKind Try.prog 94 = some .oth := by kernel_rfl
@[go_sem] theorem tZero94 : tZero Try.prog 94 = some .nilFunc := by kernel_rfl
@[go_sem] theorem tAgg95 : tAgg Try.prog 95 = some none := by kernel_rfl
@[go_sem] theorem tSize95 : tSize Try.prog 95 = some 1 := by kernel_rfl
@[go_sem] theorem tKind95 : tKind Try.prog 95 = some .ptr := by kernel_rfl
@[go_sem] theorem tZero95 : tZero Try.prog 95 = some (.pointer none) := by kernel_rfl
@[go_sem] theorem tAgg96 : tAgg Try.prog 96 = some none := by kernel_rfl
@[go_sem] theorem tSize96 : tSize Try.prog 96 = some 1 := by kernel_rfl
@[go_sem] theorem tKind96 : tKind Try.prog 96 = some .oth := by kernel_rfl
@[go_sem] theorem tZero96 : tZero Try.prog 96 = some .nilFunc := by kernel_rfl
@[go_sem] theorem tAgg97 : tAgg Try.prog 97 = some none := by kernel_rfl
@[go_sem] theorem tSize97 : tSize Try.prog 97 = some 1 := by kernel_rfl
@[go_sem] theorem tKind97 : tKind Try.prog 97 = some .ptr := by kernel_rfl
@[go_sem] theorem tZero97 : tZero Try.prog 97 = some (.pointer none) := by kernel_rfl
@[go_sem] theorem tAgg98 : tAgg Try.prog 98 = some none := by kernel_rfl
@[go_sem] theorem tSize98 : tSize Try.prog 98 = some 1 := by kernel_rfl
@[go_sem] theorem tKind98 : tKind Try.prog 98 = some .oth := by kernel_rfl
@[go_sem] theorem tZero98 : tZero Try.prog 98 = some .nilFunc := by kernel_rfl
@[go_sem] theorem tAgg99 : tAgg Try.prog 99 = some none := by kernel_rfl
@[go_sem] theorem tSize99 : tSize Try.prog 99 = some 1 := by kernel_rfl
@[go_sem] theorem tKind99 : tKind Try.prog 99 = some .oth := by kernel_rfl
@[go_sem] theorem tZero99 : tZero Try.prog 99 = some .nilFunc := by kernel_rfl
@[go_sem] theorem tAgg100 : tAgg Try.prog 100 = some (some 4) := by kernel_rfl
@[go_sem] theorem tSize100 : tSize Try.prog 100 = some 4 := by kernel_rfl
@[go_sem] theorem tKind100 : tKind Try.prog 100 = some .oth := by kernel_rfl
@[go_sem] theorem tZero100 : tZero Try.prog 100 = some (.agg #[(.pointer none), (.pointer none), (.pointer none), (.string ⟨#[]⟩)]) := by kernel_rfl
@[go_sem] theorem tPlaces100 : tPlaces Try.prog 100 = some [(0, 1), (1, 1), (2, 1), (3, 1)] := by kernel_rfl
@[go_sem] theorem tField100_0 : tField Try.prog 100 0 = some (0, 17) := by kernel_rfl
@[go_sem] theorem tField100_1 : tField Try.prog 100 1 = some (1, 17) := by kernel_rfl
@[go_sem] theorem tField100_2 : tField Try.prog 100 2 = some (2, 17) := by kernel_rfl
@[go_sem] theorem tField100_3 : tField Try.prog 100 3 = some (3, 9) := by kernel_rfl
@[go_sem] theorem tAgg101 : tAgg Try.prog 101 = some (some 4) := by kernel_rfl
@[go_sem] theorem tSize101 : tSize Try.prog 101 = some 4 := by kernel_rfl
@[go_sem] theorem tKind101 : tKind Try.prog 101 = some .oth := by kernel_rfl
@[go_sem] theorem tZero101 : tZero Try.prog 101 = some (.agg #[(.pointer none), (.pointer none), (.pointer none), (.string ⟨#[]⟩)]) := by kernel_rfl
@[go_sem] theorem tPlaces101 : tPlaces Try.prog 101 = some [(0, 1), (1, 1), (2, 1), (3, 1)] := by kernel_rfl
@[go_sem] theorem tField101_0 : tField Try.prog 101 0 = some (0, 17) := by kernel_rfl
@[go_sem] theorem tField101_1 : tField Try.prog 101 1 = some (1, 17) := by kernel_rfl
@[go_sem] theorem tField101_2 : tField Try.prog 101 2 = some (2, 17) := by kernel_rfl
@[go_sem] theorem tField101_3 : tField Try.prog 101 3 = some (3, 9) := by kernel_rfl
@[go_sem] theorem tAgg102 : tAgg Try.prog 102 = some (some 0) := by kernel_rfl
@[go_sem] theorem tSize102 : tSize Try.prog 102 = some 0 := by kernel_rfl
@[go_sem] theorem tKind102 : tKind Try.prog 102 = some .oth := by kernel_rfl
@[go_sem] theorem tZero102 : tZero Try.prog 102 = some (.agg #[]) := by kernel_rfl
@[go_sem] theorem tAgg103 : tAgg Try.prog 103 = some (some 0) := by kernel_rfl
@[go_sem] theorem tSize103 : tSize Try.prog 103 = some 0 := by kernel_rfl
@[go_sem] theorem tKind103 : tKind Try.prog 103 = some .oth := by kernel_rfl
@[go_sem] theorem tZero103 : tZero Try.prog 103 = some (.agg #[]) := by kernel_rfl
@[go_sem] theorem tPlaces103 : tPlaces Try.prog 103 = some [(0, 0)] := by kernel_rfl
@[go_sem] theorem tAgg104 : tAgg Try.prog 104 = some (some 0) := by kernel_rfl
@[go_sem] theorem tSize104 : tSize Try.prog 104 = some 0 := by kernel_rfl
@[go_sem] theorem tKind104 : tKind Try.prog 104 = some .oth := by kernel_rfl
@[go_sem] theorem tZero104 : tZero Try.prog 104 = some (.agg #[]) := by kernel_rfl
@[go_sem] theorem tPlaces104 : tPlaces Try.prog 104 = some [(0, 0)] := by kernel_rfl
@[go_sem] theorem tAgg105 : tAgg Try.prog 105 = some none := by kernel_rfl
@[go_sem] theorem tSize105 : tSize Try.prog 105 = some 1 := by kernel_rfl
@[go_sem] theorem tKind105 : tKind Try.prog 105 = some .oth := by kernel_rfl
@[go_sem] theorem tZero105 : tZero Try.prog 105 = some .nilFunc := by kernel_rfl
@[go_sem] theorem tAgg106 : tAgg Try.prog 106 = some none := by kernel_rfl
@[go_sem] theorem tSize106 : tSize Try.prog 106 = some 1 := by kernel_rfl
@[go_sem] theorem tKind106 : tKind Try.prog 106 = some (.int .u8) := by kernel_rfl
@[go_sem] theorem tZero106 : tZero Try.prog 106 = some (.int .u8 0) := by kernel_rfl
@[go_sem] theorem tAgg107 : tAgg Try.prog 107 = some none := by kernel_rfl
@[go_sem] theorem tSize107 : tSize Try.prog 107 = some 1 := by kernel_rfl
@[go_sem] theorem tKind107 : tKind Try.prog 107 = some (.int .u8) := by kernel_rfl
@[go_sem] theorem tZero107 : tZero Try.prog 107 = some (.int .u8 0) := by kernel_rfl
@[go_sem] theorem tAgg108 : tAgg Try.prog 108 = some none := by kernel_rfl
@[go_sem] theorem tSize108 : tSize Try.prog 108 = some 1 := by kernel_rfl
@[go_sem] theorem tKind108 : tKind Try.prog 108 = some .oth := by kernel_rfl
@[go_sem] theorem tZero108 : tZero Try.prog 108 = some .nilFunc := by kernel_rfl
@[go_sem] theorem tAgg109 : tAgg Try.prog 109 = some none := by kernel_rfl
@[go_sem] theorem tSize109 : tSize Try.prog 109 = some 1 := by kernel_rfl
@[go_sem] theorem tKind109 : tKind Try.prog 109 = some .ptr := by kernel_rfl
@[go_sem] theorem tZero109 : tZero Try.prog 109 = some (.pointer none) := by kernel_rfl
@[go_sem] theorem tAgg110 : tAgg Try.prog 110 = some none := by kernel_rfl
@[go_sem] theorem tSize110 : tSize Try.prog 110 = some 1 := by kernel_rfl
@[go_sem] theorem tKind110 : tKind Try.prog 110 = some (.int .i32) := by kernel_rfl
@[go_sem] theorem tZero110 : tZero Try.prog 110 = some (.int .i32 0) := by kernel_rfl
@[go_sem] theorem tAgg111 : tAgg Try.prog 111 = some none := by kernel_rfl
@[go_sem] theorem tSize111 : tSize Try.prog 111 = some 1 := by kernel_rfl
@[go_sem] theorem tKind111 : tKind Try.prog 111 = some (.int .i32) := by kernel_rfl
@[go_sem] theorem tZero111 : tZero Try.prog 111 = some (.int .i32 0) := by kernel_rfl
@[go_sem] theorem tAgg112 : tAgg Try.prog 112 = some (some 11) := by kernel_rfl
@[go_sem] theorem tSize112 : tSize Try.prog 112 = some 11 := by kernel_rfl
@[go_sem] theorem tKind112 : tKind Try.prog 112 = some .oth := by kernel_rfl
@[go_sem] theorem tZero112 : tZero Try.prog 112 = some (.agg #[(.int .u64 0), (.int .u64 0), (.int .u32 0), (.int .u8 0), (.int .u8 0), (.int .u8 0), (.int .u8 0), .nilFunc, (.pointer none), (.int .i32 0), (.int .i32 0)]) := by kernel_rfl
@[go_sem] theorem tPlaces112 : tPlaces Try.prog 112 = some [(0, 1), (1, 1), (2, 1), (3, 1), (4, 1), (5, 1), (6, 1), (7, 1), (8, 1), (9, 1), (10, 1)] := by kernel_rfl
@[go_sem] theorem tField112_0 : tField Try.prog 112 0 = some (0, 12) := by kernel_rfl
@[go_sem] theorem tField112_1 : tField Try.prog 112 1 = some (1, 12) := by kernel_rfl
@[go_sem] theorem tField112_2 : tField Try.prog 112 2 = some (2, 77) := by kernel_rfl
@[go_sem] theorem tField112_3 : tField Try.prog 112 3 = some (3, 106) := by kernel_rfl
@[go_sem] theorem tField112_4 : tField Try.prog 112 4 = some (4, 5) := by kernel_rfl
@[go_sem] theorem tField112_5 : tField Try.prog 112 5 = some (5, 5) := by kernel_rfl
@[go_sem] theorem tField112_6 : tField Try.prog 112 6 = some (6, 107) := by kernel_rfl
@[go_sem] theorem tField112_7 : tField Try.prog 112 7 = some (7, 108) := by kernel_rfl
@[go_sem] theorem tField112_8 : tField Try.prog 112 8 = some (8, 109) := by kernel_rfl
@[go_sem] theorem tField112_9 : tField Try.prog 112 9 = some (9, 110) := by kernel_rfl
@[go_sem] theorem tField112_10 : tField Try.prog 112 10 = some (10, 111) := by kernel_rfl
@[go_sem] theorem tAgg113 : tAgg Try.prog 113 = some (some 11) := by kernel_rfl
@[go_sem] theorem tSize113 : tSize Try.prog 113 = some 11 := by kernel_rfl
@[go_sem] theorem tKind113 : tKind Try.prog 113 = some .oth := by kernel_rfl
@[go_sem] theorem tZero113 : tZero Try.prog 113 = some (.agg #[(.int .u64 0), (.int .u64 0), (.int .u32 0), (.int .u8 0), (.int .u8 0), (.int .u8 0), (.int .u8 0), .nilFunc, (.pointer none), (.int .i32 0), (.int .i32 0)]) := by kernel_rfl
@[go_sem] theorem tPlaces113 : tPlaces Try.prog 113 = some [(0, 1), (1, 1), (2, 1), (3, 1), (4, 1), (5, 1), (6, 1), (7, 1), (8, 1), (9, 1), (10, 1)] := by kernel_rfl
@[go_sem] theorem tField113_0 : tField Try.prog 113 0 = some (0, 12) := by kernel_rfl
@[go_sem] theorem tField113_1 : tField Try.prog 113 1 = some (1, 12) := by kernel_rfl
@[go_sem] theorem tField113_2 : tField Try.prog 113 2 = some (2, 77) := by kernel_rfl
@[go_sem] theorem tField113_3 : tField Try.prog 113 3 = some (3, 106) := by kernel_rfl
@[go_sem] theorem tField113_4 : tField Try.prog 113 4 = some (4, 5) := by kernel_rfl
@[go_sem] theorem tField113_5 : tField Try.prog 113 5 = some (5, 5) := by kernel_rfl
@[go_sem] theorem tField113_6 : tField Try.prog 113 6 = some (6, 107) := by kernel_rfl
@[go_sem] theorem tField113_7 : tField Try.prog 113 7 = some (7, 108) := by kernel_rfl
@[go_sem] theorem tField113_8 : tField Try.prog 113 8 = some (8, 109) := by kernel_rfl
@[go_sem] theorem tField113_9 : tField Try.prog 113 9 = some (9, 110) := by kernel_rfl
@[go_sem] theorem tField113_10 : tField Try.prog 113 10 = some (10, 111) := by kernel_rfl
theorem mixed : Try.prog.follows .mixedOrders = true := by kernel_rfl

end Go.Proofs.Ytejhomoafhnipaa.AM
