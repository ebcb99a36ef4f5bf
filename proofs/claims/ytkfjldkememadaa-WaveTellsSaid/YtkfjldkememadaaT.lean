/- Of each type of the translation: cells, elements, zero values, fields. Written by wip/tools/types.py. No condition. -/
import Derived.Test.YtkfjldkememadaaAC
import Derived.Test.YtkfjldkememadaaProg
import Derived.KernelRfl
namespace Go.Proofs.Ytkfjldkememadaa.AM
open Go Go.RowKit

@[go_sem] theorem tAgg1 : tAgg Try.prog 1 = some none := by kernel_rfl
@[go_sem] theorem tSize1 : tSize Try.prog 1 = some 1 := by kernel_rfl
@[go_sem] theorem tKind1 : tKind Try.prog 1 = some .oth := by kernel_rfl
@[go_sem] theorem tZero1 : tZero Try.prog 1 = some .nilFunc := by kernel_rfl
@[go_sem] theorem tAgg2 : tAgg Try.prog 2 = some none := by kernel_rfl
@[go_sem] theorem tSize2 : tSize Try.prog 2 = some 1 := by kernel_rfl
@[go_sem] theorem tKind2 : tKind Try.prog 2 = some (.int .i64) := by kernel_rfl
@[go_sem] theorem tZero2 : tZero Try.prog 2 = some (.int .i64 0) := by kernel_rfl
@[go_sem] theorem tAgg3 : tAgg Try.prog 3 = some none := by kernel_rfl
@[go_sem] theorem tSize3 : tSize Try.prog 3 = some 1 := by kernel_rfl
@[go_sem] theorem tKind3 : tKind Try.prog 3 = some (.int .i64) := by kernel_rfl
@[go_sem] theorem tZero3 : tZero Try.prog 3 = some (.int .i64 0) := by kernel_rfl
@[go_sem] theorem tAgg4 : tAgg Try.prog 4 = some none := by kernel_rfl
@[go_sem] theorem tSize4 : tSize Try.prog 4 = some 1 := by kernel_rfl
@[go_sem] theorem tKind4 : tKind Try.prog 4 = some .bool := by kernel_rfl
@[go_sem] theorem tZero4 : tZero Try.prog 4 = some (.bool false) := by kernel_rfl
@[go_sem] theorem tAgg5 : tAgg Try.prog 5 = some none := by kernel_rfl
@[go_sem] theorem tSize5 : tSize Try.prog 5 = some 1 := by kernel_rfl
@[go_sem] theorem tKind5 : tKind Try.prog 5 = some (.int .u8) := by kernel_rfl
@[go_sem] theorem tZero5 : tZero Try.prog 5 = some (.int .u8 0) := by kernel_rfl
@[go_sem] theorem tAgg6 : tAgg Try.prog 6 = some none := by kernel_rfl
@[go_sem] theorem tSize6 : tSize Try.prog 6 = some 1 := by kernel_rfl
@[go_sem] theorem tKind6 : tKind Try.prog 6 = some (.int .u8) := by kernel_rfl
@[go_sem] theorem tZero6 : tZero Try.prog 6 = some (.int .u8 0) := by kernel_rfl
@[go_sem] theorem tAgg7 : tAgg Try.prog 7 = some (some 4) := by kernel_rfl
@[go_sem] theorem tSize7 : tSize Try.prog 7 = some 4 := by kernel_rfl
@[go_sem] theorem tKind7 : tKind Try.prog 7 = some .oth := by kernel_rfl
@[go_sem] theorem tZero7 : tZero Try.prog 7 = some (.agg #[(.int .i64 0), (.int .i64 0), (.bool false), (.int .u8 0)]) := by kernel_rfl
@[go_sem] theorem tPlaces7 : tPlaces Try.prog 7 = some [(0, 1), (1, 1), (2, 1), (3, 1)] := by kernel_rfl
@[go_sem] theorem tField7_0 : tField Try.prog 7 0 = some (0, 2) := by kernel_rfl
@[go_sem] theorem tField7_1 : tField Try.prog 7 1 = some (1, 3) := by kernel_rfl
@[go_sem] theorem tField7_2 : tField Try.prog 7 2 = some (2, 4) := by kernel_rfl
@[go_sem] theorem tField7_3 : tField Try.prog 7 3 = some (3, 6) := by kernel_rfl
@[go_sem] theorem tAgg8 : tAgg Try.prog 8 = some (some 4) := by kernel_rfl
@[go_sem] theorem tSize8 : tSize Try.prog 8 = some 4 := by kernel_rfl
@[go_sem] theorem tKind8 : tKind Try.prog 8 = some .oth := by kernel_rfl
@[go_sem] theorem tZero8 : tZero Try.prog 8 = some (.agg #[(.int .i64 0), (.int .i64 0), (.bool false), (.int .u8 0)]) := by kernel_rfl
@[go_sem] theorem tPlaces8 : tPlaces Try.prog 8 = some [(0, 1), (1, 1), (2, 1), (3, 1)] := by kernel_rfl
@[go_sem] theorem tField8_0 : tField Try.prog 8 0 = some (0, 2) := by kernel_rfl
@[go_sem] theorem tField8_1 : tField Try.prog 8 1 = some (1, 3) := by kernel_rfl
@[go_sem] theorem tField8_2 : tField Try.prog 8 2 = some (2, 4) := by kernel_rfl
@[go_sem] theorem tField8_3 : tField Try.prog 8 3 = some (3, 6) := by kernel_rfl
@[go_sem] theorem tAgg9 : tAgg Try.prog 9 = some none := by kernel_rfl
@[go_sem] theorem tSize9 : tSize Try.prog 9 = some 1 := by kernel_rfl
@[go_sem] theorem tKind9 : tKind Try.prog 9 = some .str := by kernel_rfl
@[go_sem] theorem tZero9 : tZero Try.prog 9 = some (.string ⟨#[]⟩) := by kernel_rfl
@[go_sem] theorem tAgg10 : tAgg Try.prog 10 = some none := by kernel_rfl
@[go_sem] theorem tSize10 : tSize Try.prog 10 = some 1 := by kernel_rfl
@[go_sem] theorem tKind10 : tKind Try.prog 10 = some .str := by kernel_rfl
@[go_sem] theorem tZero10 : tZero Try.prog 10 = some (.string ⟨#[]⟩) := by kernel_rfl
@[go_sem] theorem tAgg11 : tAgg Try.prog 11 = some none := by kernel_rfl
@[go_sem] theorem tSize11 : tSize Try.prog 11 = some 1 := by kernel_rfl
@[go_sem] theorem tKind11 : tKind Try.prog 11 = some .str := by kernel_rfl
@[go_sem] theorem tZero11 : tZero Try.prog 11 = some (.string ⟨#[]⟩) := by kernel_rfl
@[go_sem] theorem tAgg12 : tAgg Try.prog 12 = some none := by kernel_rfl
@[go_sem] theorem tSize12 : tSize Try.prog 12 = some 1 := by kernel_rfl
@[go_sem] theorem tKind12 : tKind Try.prog 12 = some (.int .u64) := by kernel_rfl
@[go_sem] theorem tZero12 : tZero Try.prog 12 = some (.int .u64 0) := by kernel_rfl
@[go_sem] theorem tAgg13 : tAgg Try.prog 13 = some (some 2) := by kernel_rfl
@[go_sem] theorem tSize13 : tSize Try.prog 13 = some 2 := by kernel_rfl
@[go_sem] theorem tKind13 : tKind Try.prog 13 = some .oth := by kernel_rfl
@[go_sem] theorem tZero13 : tZero Try.prog 13 = some (.agg #[(.string ⟨#[]⟩), (.int .u64 0)]) := by kernel_rfl
@[go_sem] theorem tPlaces13 : tPlaces Try.prog 13 = some [(0, 1), (1, 1)] := by kernel_rfl
@[go_sem] theorem tField13_0 : tField Try.prog 13 0 = some (0, 9) := by kernel_rfl
@[go_sem] theorem tField13_1 : tField Try.prog 13 1 = some (1, 12) := by kernel_rfl
@[go_sem] theorem tAgg14 : tAgg Try.prog 14 = some (some 2) := by kernel_rfl
@[go_sem] theorem tSize14 : tSize Try.prog 14 = some 2 := by kernel_rfl
@[go_sem] theorem tKind14 : tKind Try.prog 14 = some .oth := by kernel_rfl
@[go_sem] theorem tZero14 : tZero Try.prog 14 = some (.agg #[(.string ⟨#[]⟩), (.int .u64 0)]) := by kernel_rfl
@[go_sem] theorem tPlaces14 : tPlaces Try.prog 14 = some [(0, 1), (1, 1)] := by kernel_rfl
@[go_sem] theorem tField14_0 : tField Try.prog 14 0 = some (0, 9) := by kernel_rfl
@[go_sem] theorem tField14_1 : tField Try.prog 14 1 = some (1, 12) := by kernel_rfl
@[go_sem] theorem tAgg15 : tAgg Try.prog 15 = some none := by kernel_rfl
@[go_sem] theorem tSize15 : tSize Try.prog 15 = some 1 := by kernel_rfl
@[go_sem] theorem tKind15 : tKind Try.prog 15 = some .ptr := by kernel_rfl
@[go_sem] theorem tZero15 : tZero Try.prog 15 = some (.pointer none) := by kernel_rfl
@[go_sem] theorem tAgg16 : tAgg Try.prog 16 = some none := by kernel_rfl
@[go_sem] theorem tSize16 : tSize Try.prog 16 = some 1 := by kernel_rfl
@[go_sem] theorem tKind16 : tKind Try.prog 16 = some .ptr := by kernel_rfl
@[go_sem] theorem tZero16 : tZero Try.prog 16 = some (.pointer none) := by kernel_rfl
@[go_sem] theorem tAgg17 : tAgg Try.prog 17 = some none := by kernel_rfl
@[go_sem] theorem tSize17 : tSize Try.prog 17 = some 1 := by kernel_rfl
@[go_sem] theorem tKind17 : tKind Try.prog 17 = some .ptr := by kernel_rfl
@[go_sem] theorem tZero17 : tZero Try.prog 17 = some (.pointer none) := by kernel_rfl
@[go_sem] theorem tAgg18 : tAgg Try.prog 18 = some (some 1) := by kernel_rfl
@[go_sem] theorem tSize18 : tSize Try.prog 18 = some 1 := by kernel_rfl
@[go_sem] theorem tKind18 : tKind Try.prog 18 = some .oth := by kernel_rfl
@[go_sem] theorem tZero18 : tZero Try.prog 18 = some (.agg #[(.pointer none)]) := by kernel_rfl
@[go_sem] theorem tPlaces18 : tPlaces Try.prog 18 = some [(0, 1)] := by kernel_rfl
@[go_sem] theorem tField18_0 : tField Try.prog 18 0 = some (0, 17) := by kernel_rfl
@[go_sem] theorem tAgg19 : tAgg Try.prog 19 = some (some 1) := by kernel_rfl
@[go_sem] theorem tSize19 : tSize Try.prog 19 = some 1 := by kernel_rfl
@[go_sem] theorem tKind19 : tKind Try.prog 19 = some .oth := by kernel_rfl
@[go_sem] theorem tZero19 : tZero Try.prog 19 = some (.agg #[(.pointer none)]) := by kernel_rfl
@[go_sem] theorem tPlaces19 : tPlaces Try.prog 19 = some [(0, 1)] := by kernel_rfl
@[go_sem] theorem tField19_0 : tField Try.prog 19 0 = some (0, 17) := by kernel_rfl
@[go_sem] theorem tAgg21 : tAgg Try.prog 21 = some none := by kernel_rfl
@[go_sem] theorem tSize21 : tSize Try.prog 21 = some 1 := by kernel_rfl
@[go_sem] theorem tKind21 : tKind Try.prog 21 = some (.int .i32) := by kernel_rfl
@[go_sem] theorem tZero21 : tZero Try.prog 21 = some (.int .i32 0) := by kernel_rfl
@[go_sem] theorem tAgg22 : tAgg Try.prog 22 = some none := by kernel_rfl
@[go_sem] theorem tSize22 : tSize Try.prog 22 = some 1 := by kernel_rfl
@[go_sem] theorem tKind22 : tKind Try.prog 22 = some .slc := by kernel_rfl
@[go_sem] theorem tZero22 : tZero Try.prog 22 = some (.slice none 0 0) := by kernel_rfl
@[go_sem] theorem tElem22 : tElem Try.prog 22 = some ⟨3, 1, 8, (.int .i64 0)⟩ := by kernel_rfl
@[go_sem] theorem tAgg23 : tAgg Try.prog 23 = some (some 3) := by kernel_rfl
@[go_sem] theorem tSize23 : tSize Try.prog 23 = some 3 := by kernel_rfl
@[go_sem] theorem tKind23 : tKind Try.prog 23 = some .oth := by kernel_rfl
@[go_sem] theorem tZero23 : tZero Try.prog 23 = some (.agg #[(.int .i64 0), (.int .i64 0), (.int .i64 0)]) := by kernel_rfl
@[go_sem] theorem tArr23 : tArr Try.prog 23 = some (3, 3, 1) := by kernel_rfl
@[go_sem] theorem tAgg24 : tAgg Try.prog 24 = some none := by kernel_rfl
@[go_sem] theorem tSize24 : tSize Try.prog 24 = some 1 := by kernel_rfl
@[go_sem] theorem tKind24 : tKind Try.prog 24 = some .oth := by kernel_rfl
@[go_sem] theorem tZero24 : tZero Try.prog 24 = some .nilFunc := by kernel_rfl
@[go_sem] theorem tAgg26 : tAgg Try.prog 26 = some none := by kernel_rfl
@[go_sem] theorem tSize26 : tSize Try.prog 26 = some 1 := by kernel_rfl
@[go_sem] theorem tKind26 : tKind Try.prog 26 = some .oth := by kernel_rfl
@[go_sem] theorem tZero26 : tZero Try.prog 26 = some .nilFunc := by kernel_rfl
@[go_sem] theorem tAgg27 : tAgg Try.prog 27 = some none := by kernel_rfl
@[go_sem] theorem tSize27 : tSize Try.prog 27 = some 1 := by kernel_rfl
@[go_sem] theorem tKind27 : tKind Try.prog 27 = some .slc := by kernel_rfl
@[go_sem] theorem tZero27 : tZero Try.prog 27 = some (.slice none 0 0) := by kernel_rfl
@[go_sem] theorem tElem27 : tElem Try.prog 27 = some ⟨69, 7, 88, (.agg #[(.int .i64 0), (.slice none 0 0), (.int .i64 0), (.int .i64 0), (.int .i64 0), (.int .i64 0), (.slice none 0 0)])⟩ := by kernel_rfl
@[go_sem] theorem tAgg28 : tAgg Try.prog 28 = some (some 3) := by kernel_rfl
@[go_sem] theorem tSize28 : tSize Try.prog 28 = some 3 := by kernel_rfl
@[go_sem] theorem tKind28 : tKind Try.prog 28 = some .oth := by kernel_rfl
@[go_sem] theorem tZero28 : tZero Try.prog 28 = some (.agg #[(.int .i64 0), (.int .i64 0), (.slice none 0 0)]) := by kernel_rfl
@[go_sem] theorem tPlaces28 : tPlaces Try.prog 28 = some [(0, 1), (1, 1), (2, 1)] := by kernel_rfl
@[go_sem] theorem tField28_0 : tField Try.prog 28 0 = some (0, 3) := by kernel_rfl
@[go_sem] theorem tField28_1 : tField Try.prog 28 1 = some (1, 3) := by kernel_rfl
@[go_sem] theorem tField28_2 : tField Try.prog 28 2 = some (2, 27) := by kernel_rfl
@[go_sem] theorem tAgg29 : tAgg Try.prog 29 = some (some 3) := by kernel_rfl
@[go_sem] theorem tSize29 : tSize Try.prog 29 = some 3 := by kernel_rfl
@[go_sem] theorem tKind29 : tKind Try.prog 29 = some .oth := by kernel_rfl
@[go_sem] theorem tZero29 : tZero Try.prog 29 = some (.agg #[(.int .i64 0), (.int .i64 0), (.slice none 0 0)]) := by kernel_rfl
@[go_sem] theorem tPlaces29 : tPlaces Try.prog 29 = some [(0, 1), (1, 1), (2, 1)] := by kernel_rfl
@[go_sem] theorem tField29_0 : tField Try.prog 29 0 = some (0, 3) := by kernel_rfl
@[go_sem] theorem tField29_1 : tField Try.prog 29 1 = some (1, 3) := by kernel_rfl
@[go_sem] theorem tField29_2 : tField Try.prog 29 2 = some (2, 27) := by kernel_rfl
@[go_sem] theorem tAgg30 : tAgg Try.prog 30 = some none := by kernel_rfl
@[go_sem] theorem tSize30 : tSize Try.prog 30 = some 1 := by kernel_rfl
@[go_sem] theorem tKind30 : tKind Try.prog 30 = some (.int .i64) := by kernel_rfl
@[go_sem] theorem tZero30 : tZero Try.prog 30 = some (.int .i64 0) := by kernel_rfl
@[go_sem] theorem tAgg32 : tAgg Try.prog 32 = some none := by kernel_rfl
@[go_sem] theorem tSize32 : tSize Try.prog 32 = some 1 := by kernel_rfl
@[go_sem] theorem tKind32 : tKind Try.prog 32 = some .oth := by kernel_rfl
@[go_sem] theorem tZero32 : tZero Try.prog 32 = some .nilFunc := by kernel_rfl
@[go_sem] theorem tAgg33 : tAgg Try.prog 33 = some none := by kernel_rfl
@[go_sem] theorem tSize33 : tSize Try.prog 33 = some 1 := by kernel_rfl
@[go_sem] theorem tKind33 : tKind Try.prog 33 = some .oth := by kernel_rfl
@[go_sem] theorem tZero33 : tZero Try.prog 33 = some .nilFunc := by kernel_rfl
@[go_sem] theorem tAgg34 : tAgg Try.prog 34 = some none := by kernel_rfl
@[go_sem] theorem tSize34 : tSize Try.prog 34 = some 1 := by kernel_rfl
@[go_sem] theorem tKind34 : tKind Try.prog 34 = some .oth := by kernel_rfl
@[go_sem] theorem tZero34 : tZero Try.prog 34 = some .nilFunc := by kernel_rfl
@[go_sem] theorem tAgg35 : tAgg Try.prog 35 = some none := by kernel_rfl
@[go_sem] theorem tSize35 : tSize Try.prog 35 = some 1 := by kernel_rfl
@[go_sem] theorem tKind35 : tKind Try.prog 35 = some .oth := by kernel_rfl
@[go_sem] theorem tZero35 : tZero Try.prog 35 = some .nilFunc := by kernel_rfl
@[go_sem] theorem tAgg36 : tAgg Try.prog 36 = some none := by kernel_rfl
@[go_sem] theorem tSize36 : tSize Try.prog 36 = some 1 := by kernel_rfl
@[go_sem] theorem tKind36 : tKind Try.prog 36 = some .oth := by kernel_rfl
@[go_sem] theorem tZero36 : tZero Try.prog 36 = some .nilFunc := by kernel_rfl
@[go_sem] theorem tAgg38 : tAgg Try.prog 38 = some none := by kernel_rfl
@[go_sem] theorem tSize38 : tSize Try.prog 38 = some 1 := by kernel_rfl
@[go_sem] theorem tKind38 : tKind Try.prog 38 = some .oth := by kernel_rfl
@[go_sem] theorem tZero38 : tZero Try.prog 38 = some .nilFunc := by kernel_rfl
@[go_sem] theorem tAgg39 : tAgg Try.prog 39 = some none := by kernel_rfl
@[go_sem] theorem tSize39 : tSize Try.prog 39 = some 1 := by kernel_rfl
@[go_sem] theorem tKind39 : tKind Try.prog 39 = some .oth := by kernel_rfl
@[go_sem] theorem tZero39 : tZero Try.prog 39 = some .nilFunc := by kernel_rfl
@[go_sem] theorem tAgg40 : tAgg Try.prog 40 = some none := by kernel_rfl
@[go_sem] theorem tSize40 : tSize Try.prog 40 = some 1 := by kernel_rfl
@[go_sem] theorem tKind40 : tKind Try.prog 40 = some .oth := by kernel_rfl
@[go_sem] theorem tZero40 : tZero Try.prog 40 = some .nilFunc := by kernel_rfl
@[go_sem] theorem tAgg41 : tAgg Try.prog 41 = some none := by kernel_rfl
@[go_sem] theorem tSize41 : tSize Try.prog 41 = some 1 := by kernel_rfl
@[go_sem] theorem tKind41 : tKind Try.prog 41 = some .oth := by kernel_rfl
@[go_sem] theorem tZero41 : tZero Try.prog 41 = some .nilFunc := by kernel_rfl
@[go_sem] theorem tAgg42 : tAgg Try.prog 42 = some none := by kernel_rfl
@[go_sem] theorem tSize42 : tSize Try.prog 42 = some 1 := by kernel_rfl
@[go_sem] theorem tKind42 : tKind Try.prog 42 = some .oth := by kernel_rfl
@[go_sem] theorem tZero42 : tZero Try.prog 42 = some .nilFunc := by kernel_rfl
@[go_sem] theorem tAgg43 : tAgg Try.prog 43 = some none := by kernel_rfl
@[go_sem] theorem tSize43 : tSize Try.prog 43 = some 1 := by kernel_rfl
@[go_sem] theorem tKind43 : tKind Try.prog 43 = some .oth := by kernel_rfl
@[go_sem] theorem tZero43 : tZero Try.prog 43 = some .nilFunc := by kernel_rfl
@[go_sem] theorem tAgg44 : tAgg Try.prog 44 = some none := by kernel_rfl
@[go_sem] theorem tSize44 : tSize Try.prog 44 = some 1 := by kernel_rfl
@[go_sem] theorem tKind44 : tKind Try.prog 44 = some .oth := by kernel_rfl
@[go_sem] theorem tZero44 : tZero Try.prog 44 = some .nilFunc := by kernel_rfl
@[go_sem] theorem tAgg45 : tAgg Try.prog 45 = some none := by kernel_rfl
@[go_sem] theorem tSize45 : tSize Try.prog 45 = some 1 := by kernel_rfl
@[go_sem] theorem tKind45 : tKind Try.prog 45 = some .slc := by kernel_rfl
@[go_sem] theorem tZero45 : tZero Try.prog 45 = some (.slice none 0 0) := by kernel_rfl
@[go_sem] theorem tElem45 : tElem Try.prog 45 = some ⟨56, 2, 32, (.agg #[(.int .i64 0), (.slice none 0 0)])⟩ := by kernel_rfl
@[go_sem] theorem tAgg46 : tAgg Try.prog 46 = some none := by kernel_rfl
@[go_sem] theorem tSize46 : tSize Try.prog 46 = some 1 := by kernel_rfl
@[go_sem] theorem tKind46 : tKind Try.prog 46 = some .oth := by kernel_rfl
@[go_sem] theorem tZero46 : tZero Try.prog 46 = some .nilFunc := by kernel_rfl
@[go_sem] theorem tAgg47 : tAgg Try.prog 47 = some none := by kernel_rfl
@[go_sem] theorem tSize47 : tSize Try.prog 47 = some 1 := by kernel_rfl
@[go_sem] theorem tKind47 : tKind Try.prog 47 = some .oth := by kernel_rfl
@[go_sem] theorem tZero47 : tZero Try.prog 47 = some .nilFunc := by kernel_rfl
@[go_sem] theorem tAgg48 : tAgg Try.prog 48 = some none := by kernel_rfl
@[go_sem] theorem tSize48 : tSize Try.prog 48 = some 1 := by kernel_rfl
@[go_sem] theorem tKind48 : tKind Try.prog 48 = some .oth := by kernel_rfl
@[go_sem] theorem tZero48 : tZero Try.prog 48 = some .nilFunc := by kernel_rfl
@[go_sem] theorem tAgg49 : tAgg Try.prog 49 = some none := by kernel_rfl
@[go_sem] theorem tSize49 : tSize Try.prog 49 = some 1 := by kernel_rfl
@[go_sem] theorem tKind49 : tKind Try.prog 49 = some .oth := by kernel_rfl
@[go_sem] theorem tZero49 : tZero Try.prog 49 = some .nilFunc := by kernel_rfl
@[go_sem] theorem tAgg50 : tAgg Try.prog 50 = some none := by kernel_rfl
@[go_sem] theorem tSize50 : tSize Try.prog 50 = some 1 := by kernel_rfl
@[go_sem] theorem tKind50 : tKind Try.prog 50 = some .slc := by kernel_rfl
@[go_sem] theorem tZero50 : tZero Try.prog 50 = some (.slice none 0 0) := by kernel_rfl
@[go_sem] theorem tElem50 : tElem Try.prog 50 = some ⟨53, 1, 24, (.slice none 0 0)⟩ := by kernel_rfl
@[go_sem] theorem tAgg51 : tAgg Try.prog 51 = some none := by kernel_rfl
@[go_sem] theorem tSize51 : tSize Try.prog 51 = some 1 := by kernel_rfl
@[go_sem] theorem tKind51 : tKind Try.prog 51 = some .oth := by kernel_rfl
@[go_sem] theorem tZero51 : tZero Try.prog 51 = some .nilFunc := by kernel_rfl
@[go_sem] theorem tAgg52 : tAgg Try.prog 52 = some none := by kernel_rfl
@[go_sem] theorem tSize52 : tSize Try.prog 52 = some 1 := by kernel_rfl
@[go_sem] theorem tKind52 : tKind Try.prog 52 = some .oth := by kernel_rfl
@[go_sem] theorem tZero52 : tZero Try.prog 52 = some .nilFunc := by kernel_rfl
@[go_sem] theorem tAgg53 : tAgg Try.prog 53 = some none := by kernel_rfl
@[go_sem] theorem tSize53 : tSize Try.prog 53 = some 1 := by kernel_rfl
@[go_sem] theorem tKind53 : tKind Try.prog 53 = some .slc := by kernel_rfl
@[go_sem] theorem tZero53 : tZero Try.prog 53 = some (.slice none 0 0) := by kernel_rfl
@[go_sem] theorem tElem53 : tElem Try.prog 53 = some ⟨4, 1, 1, (.bool false)⟩ := by kernel_rfl
@[go_sem] theorem tAgg54 : tAgg Try.prog 54 = some none := by kernel_rfl
@[go_sem] theorem tSize54 : tSize Try.prog 54 = some 1 := by kernel_rfl
@[go_sem] theorem tKind54 : tKind Try.prog 54 = some .slc := by kernel_rfl
@[go_sem] theorem tZero54 : tZero Try.prog 54 = some (.slice none 0 0) := by kernel_rfl
@[go_sem] theorem tElem54 : tElem Try.prog 54 = some ⟨86, 1, 8, (.int .u64 0)⟩ := by kernel_rfl
@[go_sem] theorem tAgg55 : tAgg Try.prog 55 = some (some 2) := by kernel_rfl
@[go_sem] theorem tSize55 : tSize Try.prog 55 = some 2 := by kernel_rfl
@[go_sem] theorem tKind55 : tKind Try.prog 55 = some .oth := by kernel_rfl
@[go_sem] theorem tZero55 : tZero Try.prog 55 = some (.agg #[(.int .i64 0), (.slice none 0 0)]) := by kernel_rfl
@[go_sem] theorem tPlaces55 : tPlaces Try.prog 55 = some [(0, 1), (1, 1)] := by kernel_rfl
@[go_sem] theorem tField55_0 : tField Try.prog 55 0 = some (0, 3) := by kernel_rfl
@[go_sem] theorem tField55_1 : tField Try.prog 55 1 = some (1, 54) := by kernel_rfl
@[go_sem] theorem tAgg56 : tAgg Try.prog 56 = some (some 2) := by kernel_rfl
@[go_sem] theorem tSize56 : tSize Try.prog 56 = some 2 := by kernel_rfl
@[go_sem] theorem tKind56 : tKind Try.prog 56 = some .oth := by kernel_rfl
@[go_sem] theorem tZero56 : tZero Try.prog 56 = some (.agg #[(.int .i64 0), (.slice none 0 0)]) := by kernel_rfl
@[go_sem] theorem tPlaces56 : tPlaces Try.prog 56 = some [(0, 1), (1, 1)] := by kernel_rfl
@[go_sem] theorem tField56_0 : tField Try.prog 56 0 = some (0, 3) := by kernel_rfl
@[go_sem] theorem tField56_1 : tField Try.prog 56 1 = some (1, 54) := by kernel_rfl
@[go_sem] theorem tAgg57 : tAgg Try.prog 57 = some none := by kernel_rfl
@[go_sem] theorem tSize57 : tSize Try.prog 57 = some 1 := by kernel_rfl
@[go_sem] theorem tKind57 : tKind Try.prog 57 = some .oth := by kernel_rfl
@[go_sem] theorem tZero57 : tZero Try.prog 57 = some .nilFunc := by kernel_rfl
@[go_sem] theorem tAgg58 : tAgg Try.prog 58 = some (some 2) := by kernel_rfl
@[go_sem] theorem tSize58 : tSize Try.prog 58 = some 2 := by kernel_rfl
@[go_sem] theorem tKind58 : tKind Try.prog 58 = some .oth := by kernel_rfl
@[go_sem] theorem tZero58 : tZero Try.prog 58 = some (.agg #[(.int .i64 0), (.int .i64 0)]) := by kernel_rfl
@[go_sem] theorem tArr58 : tArr Try.prog 58 = some (2, 3, 1) := by kernel_rfl
@[go_sem] theorem tAgg59 : tAgg Try.prog 59 = some none := by kernel_rfl
@[go_sem] theorem tSize59 : tSize Try.prog 59 = some 1 := by kernel_rfl
@[go_sem] theorem tKind59 : tKind Try.prog 59 = some .oth := by kernel_rfl
@[go_sem] theorem tZero59 : tZero Try.prog 59 = some .nilFunc := by kernel_rfl
@[go_sem] theorem tAgg60 : tAgg Try.prog 60 = some none := by kernel_rfl
@[go_sem] theorem tSize60 : tSize Try.prog 60 = some 1 := by kernel_rfl
@[go_sem] theorem tKind60 : tKind Try.prog 60 = some .oth := by kernel_rfl
@[go_sem] theorem tZero60 : tZero Try.prog 60 = some .nilFunc := by kernel_rfl
@[go_sem] theorem tAgg61 : tAgg Try.prog 61 = some none := by kernel_rfl
@[go_sem] theorem tSize61 : tSize Try.prog 61 = some 1 := by kernel_rfl
@[go_sem] theorem tKind61 : tKind Try.prog 61 = some .oth := by kernel_rfl
@[go_sem] theorem tZero61 : tZero Try.prog 61 = some .nilFunc := by kernel_rfl
@[go_sem] theorem tAgg62 : tAgg Try.prog 62 = some none := by kernel_rfl
@[go_sem] theorem tSize62 : tSize Try.prog 62 = some 1 := by kernel_rfl
@[go_sem] theorem tKind62 : tKind Try.prog 62 = some .oth := by kernel_rfl
@[go_sem] theorem tZero62 : tZero Try.prog 62 = some .nilFunc := by kernel_rfl
@[go_sem] theorem tAgg63 : tAgg Try.prog 63 = some none := by kernel_rfl
@[go_sem] theorem tSize63 : tSize Try.prog 63 = some 1 := by kernel_rfl
@[go_sem] theorem tKind63 : tKind Try.prog 63 = some .ptr := by kernel_rfl
@[go_sem] theorem tZero63 : tZero Try.prog 63 = some (.pointer none) := by kernel_rfl
@[go_sem] theorem tAgg64 : tAgg Try.prog 64 = some none := by kernel_rfl
@[go_sem] theorem tSize64 : tSize Try.prog 64 = some 1 := by kernel_rfl
@[go_sem] theorem tKind64 : tKind Try.prog 64 = some .oth := by kernel_rfl
@[go_sem] theorem tZero64 : tZero Try.prog 64 = some .nilFunc := by kernel_rfl
@[go_sem] theorem tAgg65 : tAgg Try.prog 65 = some none := by kernel_rfl
@[go_sem] theorem tSize65 : tSize Try.prog 65 = some 1 := by kernel_rfl
@[go_sem] theorem tKind65 : tKind Try.prog 65 = some .oth := by kernel_rfl
@[go_sem] theorem tZero65 : tZero Try.prog 65 = some .nilFunc := by kernel_rfl
@[go_sem] theorem tAgg66 : tAgg Try.prog 66 = some (some 4) := by kernel_rfl
@[go_sem] theorem tSize66 : tSize Try.prog 66 = some 4 := by kernel_rfl
@[go_sem] theorem tKind66 : tKind Try.prog 66 = some .oth := by kernel_rfl
@[go_sem] theorem tZero66 : tZero Try.prog 66 = some (.agg #[(.int .i64 0), (.int .i64 0), (.int .i64 0), (.slice none 0 0)]) := by kernel_rfl
@[go_sem] theorem tPlaces66 : tPlaces Try.prog 66 = some [(0, 1), (1, 1), (2, 2)] := by kernel_rfl
@[go_sem] theorem tField66_0 : tField Try.prog 66 0 = some (0, 3) := by kernel_rfl
@[go_sem] theorem tField66_1 : tField Try.prog 66 1 = some (1, 3) := by kernel_rfl
@[go_sem] theorem tField66_2 : tField Try.prog 66 2 = some (2, 56) := by kernel_rfl
@[go_sem] theorem tAgg67 : tAgg Try.prog 67 = some (some 4) := by kernel_rfl
@[go_sem] theorem tSize67 : tSize Try.prog 67 = some 4 := by kernel_rfl
@[go_sem] theorem tKind67 : tKind Try.prog 67 = some .oth := by kernel_rfl
@[go_sem] theorem tZero67 : tZero Try.prog 67 = some (.agg #[(.int .i64 0), (.int .i64 0), (.int .i64 0), (.slice none 0 0)]) := by kernel_rfl
@[go_sem] theorem tPlaces67 : tPlaces Try.prog 67 = some [(0, 1), (1, 1), (2, 2)] := by kernel_rfl
@[go_sem] theorem tField67_0 : tField Try.prog 67 0 = some (0, 3) := by kernel_rfl
@[go_sem] theorem tField67_1 : tField Try.prog 67 1 = some (1, 3) := by kernel_rfl
@[go_sem] theorem tField67_2 : tField Try.prog 67 2 = some (2, 56) := by kernel_rfl
@[go_sem] theorem tAgg68 : tAgg Try.prog 68 = some (some 7) := by kernel_rfl
@[go_sem] theorem tSize68 : tSize Try.prog 68 = some 7 := by kernel_rfl
@[go_sem] theorem tKind68 : tKind Try.prog 68 = some .oth := by kernel_rfl
@[go_sem] theorem tZero68 : tZero Try.prog 68 = some (.agg #[(.int .i64 0), (.slice none 0 0), (.int .i64 0), (.int .i64 0), (.int .i64 0), (.int .i64 0), (.slice none 0 0)]) := by kernel_rfl
@[go_sem] theorem tPlaces68 : tPlaces Try.prog 68 = some [(0, 2), (2, 1), (3, 4)] := by kernel_rfl
@[go_sem] theorem tField68_0 : tField Try.prog 68 0 = some (0, 56) := by kernel_rfl
@[go_sem] theorem tField68_1 : tField Try.prog 68 1 = some (2, 3) := by kernel_rfl
@[go_sem] theorem tField68_2 : tField Try.prog 68 2 = some (3, 67) := by kernel_rfl
@[go_sem] theorem tAgg69 : tAgg Try.prog 69 = some (some 7) := by kernel_rfl
@[go_sem] theorem tSize69 : tSize Try.prog 69 = some 7 := by kernel_rfl
@[go_sem] theorem tKind69 : tKind Try.prog 69 = some .oth := by kernel_rfl
@[go_sem] theorem tZero69 : tZero Try.prog 69 = some (.agg #[(.int .i64 0), (.slice none 0 0), (.int .i64 0), (.int .i64 0), (.int .i64 0), (.int .i64 0), (.slice none 0 0)]) := by kernel_rfl
@[go_sem] theorem tPlaces69 : tPlaces Try.prog 69 = some [(0, 2), (2, 1), (3, 4)] := by kernel_rfl
@[go_sem] theorem tField69_0 : tField Try.prog 69 0 = some (0, 56) := by kernel_rfl
@[go_sem] theorem tField69_1 : tField Try.prog 69 1 = some (2, 3) := by kernel_rfl
@[go_sem] theorem tField69_2 : tField Try.prog 69 2 = some (3, 67) := by kernel_rfl
@[go_sem] theorem tAgg70 : tAgg Try.prog 70 = some none := by kernel_rfl
@[go_sem] theorem tSize70 : tSize Try.prog 70 = some 1 := by kernel_rfl
@[go_sem] theorem tKind70 : tKind Try.prog 70 = some .oth := by kernel_rfl
@[go_sem] theorem tZero70 : tZero Try.prog 70 = some .nilFunc := by kernel_rfl
@[go_sem] theorem tAgg71 : tAgg Try.prog 71 = some none := by kernel_rfl
@[go_sem] theorem tSize71 : tSize Try.prog 71 = some 1 := by kernel_rfl
@[go_sem] theorem tKind71 : tKind Try.prog 71 = some .oth := by kernel_rfl
@[go_sem] theorem tZero71 : tZero Try.prog 71 = some .nilFunc := by kernel_rfl
@[go_sem] theorem tAgg72 : tAgg Try.prog 72 = some none := by kernel_rfl
@[go_sem] theorem tSize72 : tSize Try.prog 72 = some 1 := by kernel_rfl
@[go_sem] theorem tKind72 : tKind Try.prog 72 = some .oth := by kernel_rfl
@[go_sem] theorem tZero72 : tZero Try.prog 72 = some .nilFunc := by kernel_rfl
@[go_sem] theorem tAgg73 : tAgg Try.prog 73 = some (some 2) := by kernel_rfl
@[go_sem] theorem tSize73 : tSize Try.prog 73 = some 2 := by kernel_rfl
@[go_sem] theorem tKind73 : tKind Try.prog 73 = some .oth := by kernel_rfl
@[go_sem] theorem tZero73 : tZero Try.prog 73 = some (.agg #[(.int .i64 0), (.int .i64 0)]) := by kernel_rfl
@[go_sem] theorem tPlaces73 : tPlaces Try.prog 73 = some [(0, 1), (1, 1)] := by kernel_rfl
@[go_sem] theorem tField73_0 : tField Try.prog 73 0 = some (0, 3) := by kernel_rfl
@[go_sem] theorem tField73_1 : tField Try.prog 73 1 = some (1, 3) := by kernel_rfl
@[go_sem] theorem tAgg74 : tAgg Try.prog 74 = some (some 2) := by kernel_rfl
@[go_sem] theorem tSize74 : tSize Try.prog 74 = some 2 := by kernel_rfl
@[go_sem] theorem tKind74 : tKind Try.prog 74 = some .oth := by kernel_rfl
@[go_sem] theorem tZero74 : tZero Try.prog 74 = some (.agg #[(.int .i64 0), (.int .i64 0)]) := by kernel_rfl
@[go_sem] theorem tPlaces74 : tPlaces Try.prog 74 = some [(0, 1), (1, 1)] := by kernel_rfl
@[go_sem] theorem tField74_0 : tField Try.prog 74 0 = some (0, 3) := by kernel_rfl
@[go_sem] theorem tField74_1 : tField Try.prog 74 1 = some (1, 3) := by kernel_rfl
@[go_sem] theorem tAgg75 : tAgg Try.prog 75 = some none := by kernel_rfl
@[go_sem] theorem tSize75 : tSize Try.prog 75 = some 1 := by kernel_rfl
@[go_sem] theorem tKind75 : tKind Try.prog 75 = some .oth := by kernel_rfl
@[go_sem] theorem tZero75 : tZero Try.prog 75 = some .nilFunc := by kernel_rfl
@[go_sem] theorem tAgg76 : tAgg Try.prog 76 = some none := by kernel_rfl
@[go_sem] theorem tSize76 : tSize Try.prog 76 = some 1 := by kernel_rfl
@[go_sem] theorem tKind76 : tKind Try.prog 76 = some .oth := by kernel_rfl
@[go_sem] theorem tZero76 : tZero Try.prog 76 = some .nilFunc := by kernel_rfl
@[go_sem] theorem tAgg77 : tAgg Try.prog 77 = some none := by kernel_rfl
@[go_sem] theorem tSize77 : tSize Try.prog 77 = some 1 := by kernel_rfl
@[go_sem] theorem tKind77 : tKind Try.prog 77 = some .slc := by kernel_rfl
@[go_sem] theorem tZero77 : tZero Try.prog 77 = some (.slice none 0 0) := by kernel_rfl
@[go_sem] theorem tElem77 : tElem Try.prog 77 = some ⟨74, 2, 16, (.agg #[(.int .i64 0), (.int .i64 0)])⟩ := by kernel_rfl
@[go_sem] theorem tAgg78 : tAgg Try.prog 78 = some none := by kernel_rfl
@[go_sem] theorem tSize78 : tSize Try.prog 78 = some 1 := by kernel_rfl
@[go_sem] theorem tKind78 : tKind Try.prog 78 = some .oth := by kernel_rfl
@[go_sem] theorem tZero78 : tZero Try.prog 78 = some .nilFunc := by kernel_rfl
@[go_sem] theorem tAgg79 : tAgg Try.prog 79 = some none := by kernel_rfl
@[go_sem] theorem tSize79 : tSize Try.prog 79 = some 1 := by kernel_rfl
@[go_sem] theorem tKind79 : tKind Try.prog 79 = some .oth := by kernel_rfl
@[go_sem] theorem tZero79 : tZero Try.prog 79 = some .nilFunc := by kernel_rfl
@[go_sem] theorem tAgg80 : tAgg Try.prog 80 = some none := by kernel_rfl
@[go_sem] theorem tSize80 : tSize Try.prog 80 = some 1 := by kernel_rfl
@[go_sem] theorem tKind80 : tKind Try.prog 80 = some .oth := by kernel_rfl
@[go_sem] theorem tZero80 : tZero Try.prog 80 = some .nilFunc := by kernel_rfl
@[go_sem] theorem tAgg81 : tAgg Try.prog 81 = some none := by kernel_rfl
@[go_sem] theorem tSize81 : tSize Try.prog 81 = some 1 := by kernel_rfl
@[go_sem] theorem tKind81 : tKind Try.prog 81 = some .oth := by kernel_rfl
@[go_sem] theorem tZero81 : tZero Try.prog 81 = some .nilFunc := by kernel_rfl
@[go_sem] theorem tAgg82 : tAgg Try.prog 82 = some none := by kernel_rfl
@[go_sem] theorem tSize82 : tSize Try.prog 82 = some 1 := by kernel_rfl
@[go_sem] theorem tKind82 : tKind Try.prog 82 = some .oth := by kernel_rfl
@[go_sem] theorem tZero82 : tZero Try.prog 82 = some .nilFunc := by kernel_rfl
@[go_sem] theorem tAgg83 : tAgg Try.prog 83 = some none := by kernel_rfl
@[go_sem] theorem tSize83 : tSize Try.prog 83 = some 1 := by kernel_rfl
@[go_sem] theorem tKind83 : tKind Try.prog 83 = some (.int .u64) := by kernel_rfl
@[go_sem] theorem tZero83 : tZero Try.prog 83 = some (.int .u64 0) := by kernel_rfl
@[go_sem] theorem tAgg84 : tAgg Try.prog 84 = some none := by kernel_rfl
@[go_sem] theorem tSize84 : tSize Try.prog 84 = some 1 := by kernel_rfl
@[go_sem] theorem tKind84 : tKind Try.prog 84 = some .oth := by kernel_rfl
@[go_sem] theorem tZero84 : tZero Try.prog 84 = some .nilFunc := by kernel_rfl
@[go_sem] theorem tAgg85 : tAgg Try.prog 85 = some (some 2) := by kernel_rfl
@[go_sem] theorem tSize85 : tSize Try.prog 85 = some 2 := by kernel_rfl
@[go_sem] theorem tKind85 : tKind Try.prog 85 = some .oth := by kernel_rfl
@[go_sem] theorem tZero85 : tZero Try.prog 85 = some (.agg #[(.int .i64 0), (.slice none 0 0)]) := by kernel_rfl
@[go_sem] theorem tPlaces85 : tPlaces Try.prog 85 = some [(0, 1), (1, 1)] := by kernel_rfl
@[go_sem] theorem tField85_0 : tField Try.prog 85 0 = some (0, 3) := by kernel_rfl
@[go_sem] theorem tField85_1 : tField Try.prog 85 1 = some (1, 54) := by kernel_rfl
@[go_sem] theorem tAgg86 : tAgg Try.prog 86 = some none := by kernel_rfl
@[go_sem] theorem tSize86 : tSize Try.prog 86 = some 1 := by kernel_rfl
@[go_sem] theorem tKind86 : tKind Try.prog 86 = some (.int .u64) := by kernel_rfl
@[go_sem] theorem tZero86 : tZero Try.prog 86 = some (.int .u64 0) := by kernel_rfl
@[go_sem] theorem tAgg88 : tAgg Try.prog 88 = some none := by kernel_rfl
@[go_sem] theorem tSize88 : tSize Try.prog 88 = some 1 := by kernel_rfl
@[go_sem] theorem tKind88 : tKind Try.prog 88 = some .oth := by kernel_rfl
@[go_sem] theorem tZero88 : tZero Try.prog 88 = some .nilFunc := by kernel_rfl
@[go_sem] theorem tAgg89 : tAgg Try.prog 89 = some none := by kernel_rfl
@[go_sem] theorem tSize89 : tSize Try.prog 89 = some 1 := by kernel_rfl
@[go_sem] theorem tKind89 : tKind Try.prog 89 = some .oth := by kernel_rfl
@[go_sem] theorem tZero89 : tZero Try.prog 89 = some .nilFunc := by kernel_rfl
@[go_sem] theorem tAgg90 : tAgg Try.prog 90 = some none := by kernel_rfl
@[go_sem] theorem tSize90 : tSize Try.prog 90 = some 1 := by kernel_rfl
@[go_sem] theorem tKind90 : tKind Try.prog 90 = some .oth := by kernel_rfl
@[go_sem] theorem tZero90 : tZero Try.prog 90 = some .nilFunc := by kernel_rfl
@[go_sem] theorem tAgg91 : tAgg Try.prog 91 = some none := by kernel_rfl
@[go_sem] theorem tSize91 : tSize Try.prog 91 = some 1 := by kernel_rfl
@[go_sem] theorem tKind91 : tKind Try.prog 91 = some .oth := by kernel_rfl
@[go_sem] theorem tZero91 : tZero Try.prog 91 = some .nilFunc := by kernel_rfl
@[go_sem] theorem tAgg93 : tAgg Try.prog 93 = some none := by kernel_rfl
@[go_sem] theorem tSize93 : tSize Try.prog 93 = some 1 := by kernel_rfl
@[go_sem] theorem tKind93 : tKind Try.prog 93 = some .oth := by kernel_rfl
@[go_sem] theorem tZero93 : tZero Try.prog 93 = some .nilFunc := by kernel_rfl
@[go_sem] theorem tAgg94 : tAgg Try.prog 94 = some none := by kernel_rfl
@[go_sem] theorem tSize94 : tSize Try.prog 94 = some 1 := by kernel_rfl
@[go_sem] theorem tKind94 : tKind Try.prog 94 = some .oth := by kernel_rfl
@[go_sem] theorem tZero94 : tZero Try.prog 94 = some .nilFunc := by kernel_rfl
@[go_sem] theorem tAgg95 : tAgg Try.prog 95 = some none := by kernel_rfl
@[go_sem] theorem tSize95 : tSize Try.prog 95 = some 1 := by kernel_rfl
@[go_sem] theorem tKind95 : tKind Try.prog 95 = some .oth := by kernel_rfl
@[go_sem] theorem tZero95 : tZero Try.prog 95 = some .nilFunc := by kernel_rfl
@[go_sem] theorem tAgg96 : tAgg Try.prog 96 = some none := by kernel_rfl
@[go_sem] theorem tSize96 : tSize Try.prog 96 = some 1 := by kernel_rfl
@[go_sem] theorem tKind96 : tKind Try.prog 96 = some .oth := by kernel_rfl
@[go_sem] theorem tZero96 : tZero Try.prog 96 = some .nilFunc := by kernel_rfl
@[go_sem] theorem tAgg97 : tAgg Try.prog 97 = some none := by kernel_rfl
@[go_sem] theorem tSize97 : tSize Try.prog 97 = some 1 := by kernel_rfl
@[go_sem] theorem tKind97 : tKind Try.prog 97 = some .oth := by kernel_rfl
@[go_sem] theorem tZero97 : tZero Try.prog 97 = some .nilFunc := by kernel_rfl
@[go_sem] theorem tAgg98 : tAgg Try.prog 98 = some none := by kernel_rfl
@[go_sem] theorem tSize98 : tSize Try.prog 98 = some 1 := by kernel_rfl
@[go_sem] theorem tKind98 : tKind Try.prog 98 = some .oth := by kernel_rfl
@[go_sem] theorem tZero98 : tZero Try.prog 98 = some .nilFunc := by kernel_rfl
@[go_sem] theorem tAgg99 : tAgg Try.prog 99 = some none := by kernel_rfl
@[go_sem] theorem tSize99 : tSize Try.prog 99 = some 1 := by kernel_rfl
@[go_sem] theorem tKind99 : tKind Try.prog 99 = some .oth := by kernel_rfl
@[go_sem] theorem tZero99 : tZero Try.prog 99 = some .nilFunc := by kernel_rfl
@[go_sem] theorem tAgg100 : tAgg Try.prog 100 = some none := by kernel_rfl
@[go_sem] theorem tSize100 : tSize Try.prog 100 = some 1 := by kernel_rfl
@[go_sem] theorem tKind100 : tKind Try.prog 100 = some .oth := by kernel_rfl
@[go_sem] theorem tZero100 : tZero Try.prog 100 = some .nilFunc := by kernel_rfl
@[go_sem] theorem tAgg101 : tAgg Try.prog 101 = some none := by kernel_rfl
@[go_sem] theorem tSize101 : tSize Try.prog 101 = some 1 := by kernel_rfl
@[go_sem] theorem tKind101 : tKind Try.prog 101 = some .oth := by kernel_rfl
@[go_sem] theorem tZero101 : tZero Try.prog 101 = some .nilFunc := by kernel_rfl
@[go_sem] theorem tAgg102 : tAgg Try.prog 102 = some none := by kernel_rfl
@[go_sem] theorem tSize102 : tSize Try.prog 102 = some 1 := by kernel_rfl
@[go_sem] theorem tKind102 : tKind Try.prog 102 = some .oth := by kernel_rfl
@[go_sem] theorem tZero102 : tZero Try.prog 102 = some .nilFunc := by kernel_rfl
@[go_sem] theorem tAgg103 : tAgg Try.prog 103 = some (some 4) := by kernel_rfl
@[go_sem] theorem tSize103 : tSize Try.prog 103 = some 4 := by kernel_rfl
@[go_sem] theorem tKind103 : tKind Try.prog 103 = some .oth := by kernel_rfl
@[go_sem] theorem tZero103 : tZero Try.prog 103 = some (.agg #[(.pointer none), (.pointer none), (.pointer none), (.string ⟨#[]⟩)]) := by kernel_rfl
@[go_sem] theorem tPlaces103 : tPlaces Try.prog 103 = some [(0, 1), (1, 1), (2, 1), (3, 1)] := by kernel_rfl
@[go_sem] theorem tField103_0 : tField Try.prog 103 0 = some (0, 17) := by kernel_rfl
@[go_sem] theorem tField103_1 : tField Try.prog 103 1 = some (1, 17) := by kernel_rfl
@[go_sem] theorem tField103_2 : tField Try.prog 103 2 = some (2, 17) := by kernel_rfl
@[go_sem] theorem tField103_3 : tField Try.prog 103 3 = some (3, 9) := by kernel_rfl
@[go_sem] theorem tAgg104 : tAgg Try.prog 104 = some (some 4) := by kernel_rfl
@[go_sem] theorem tSize104 : tSize Try.prog 104 = some 4 := by kernel_rfl
@[go_sem] theorem tKind104 : tKind Try.prog 104 = some .oth := by kernel_rfl
@[go_sem] theorem tZero104 : tZero Try.prog 104 = some (.agg #[(.pointer none), (.pointer none), (.pointer none), (.string ⟨#[]⟩)]) := by kernel_rfl
@[go_sem] theorem tPlaces104 : tPlaces Try.prog 104 = some [(0, 1), (1, 1), (2, 1), (3, 1)] := by kernel_rfl
@[go_sem] theorem tField104_0 : tField Try.prog 104 0 = some (0, 17) := by kernel_rfl
@[go_sem] theorem tField104_1 : tField Try.prog 104 1 = some (1, 17) := by kernel_rfl
@[go_sem] theorem tField104_2 : tField Try.prog 104 2 = some (2, 17) := by kernel_rfl
@[go_sem] theorem tField104_3 : tField Try.prog 104 3 = some (3, 9) := by kernel_rfl
@[go_sem] theorem tAgg105 : tAgg Try.prog 105 = some (some 0) := by kernel_rfl
@[go_sem] theorem tSize105 : tSize Try.prog 105 = some 0 := by kernel_rfl
@[go_sem] theorem tKind105 : tKind Try.prog 105 = some .oth := by kernel_rfl
@[go_sem] theorem tZero105 : tZero Try.prog 105 = some (.agg #[]) := by kernel_rfl
@[go_sem] theorem tAgg106 : tAgg Try.prog 106 = some (some 0) := by kernel_rfl
@[go_sem] theorem tSize106 : tSize Try.prog 106 = some 0 := by kernel_rfl
@[go_sem] theorem tKind106 : tKind Try.prog 106 = some .oth := by kernel_rfl
@[go_sem] theorem tZero106 : tZero Try.prog 106 = some (.agg #[]) := by kernel_rfl
@[go_sem] theorem tPlaces106 : tPlaces Try.prog 106 = some [(0, 0)] := by kernel_rfl
@[go_sem] theorem tAgg107 : tAgg Try.prog 107 = some (some 0) := by kernel_rfl
@[go_sem] theorem tSize107 : tSize Try.prog 107 = some 0 := by kernel_rfl
@[go_sem] theorem tKind107 : tKind Try.prog 107 = some .oth := by kernel_rfl
@[go_sem] theorem tZero107 : tZero Try.prog 107 = some (.agg #[]) := by kernel_rfl
@[go_sem] theorem tPlaces107 : tPlaces Try.prog 107 = some [(0, 0)] := by kernel_rfl
@[go_sem] theorem tAgg108 : tAgg Try.prog 108 = some none := by kernel_rfl
@[go_sem] theorem tSize108 : tSize Try.prog 108 = some 1 := by kernel_rfl
@[go_sem] theorem tKind108 : tKind Try.prog 108 = some (.int .u32) := by kernel_rfl
@[go_sem] theorem tZero108 : tZero Try.prog 108 = some (.int .u32 0) := by kernel_rfl
@[go_sem] theorem tAgg109 : tAgg Try.prog 109 = some none := by kernel_rfl
@[go_sem] theorem tSize109 : tSize Try.prog 109 = some 1 := by kernel_rfl
@[go_sem] theorem tKind109 : tKind Try.prog 109 = some (.int .u8) := by kernel_rfl
@[go_sem] theorem tZero109 : tZero Try.prog 109 = some (.int .u8 0) := by kernel_rfl
@[go_sem] theorem tAgg110 : tAgg Try.prog 110 = some none := by kernel_rfl
@[go_sem] theorem tSize110 : tSize Try.prog 110 = some 1 := by kernel_rfl
@[go_sem] theorem tKind110 : tKind Try.prog 110 = some (.int .u8) := by kernel_rfl
@[go_sem] theorem tZero110 : tZero Try.prog 110 = some (.int .u8 0) := by kernel_rfl
@[go_sem] theorem tAgg111 : tAgg Try.prog 111 = some none := by kernel_rfl
@[go_sem] theorem tSize111 : tSize Try.prog 111 = some 1 := by kernel_rfl
@[go_sem] theorem tKind111 : tKind Try.prog 111 = some .oth := by kernel_rfl
@[go_sem] theorem tZero111 : tZero Try.prog 111 = some .nilFunc := by kernel_rfl
@[go_sem] theorem tAgg112 : tAgg Try.prog 112 = some none := by kernel_rfl
@[go_sem] theorem tSize112 : tSize Try.prog 112 = some 1 := by kernel_rfl
@[go_sem] theorem tKind112 : tKind Try.prog 112 = some .ptr := by kernel_rfl
@[go_sem] theorem tZero112 : tZero Try.prog 112 = some (.pointer none) := by kernel_rfl
@[go_sem] theorem tAgg113 : tAgg Try.prog 113 = some none := by kernel_rfl
@[go_sem] theorem tSize113 : tSize Try.prog 113 = some 1 := by kernel_rfl
@[go_sem] theorem tKind113 : tKind Try.prog 113 = some (.int .i32) := by kernel_rfl
@[go_sem] theorem tZero113 : tZero Try.prog 113 = some (.int .i32 0) := by kernel_rfl
@[go_sem] theorem tAgg114 : tAgg Try.prog 114 = some none := by kernel_rfl
@[go_sem] theorem tSize114 : tSize Try.prog 114 = some 1 := by kernel_rfl
@[go_sem] theorem tKind114 : tKind Try.prog 114 = some (.int .i32) := by kernel_rfl
@[go_sem] theorem tZero114 : tZero Try.prog 114 = some (.int .i32 0) := by kernel_rfl
@[go_sem] theorem tAgg115 : tAgg Try.prog 115 = some (some 11) := by kernel_rfl
@[go_sem] theorem tSize115 : tSize Try.prog 115 = some 11 := by kernel_rfl
@[go_sem] theorem tKind115 : tKind Try.prog 115 = some .oth := by kernel_rfl
@[go_sem] theorem tZero115 : tZero Try.prog 115 = some (.agg #[(.int .u64 0), (.int .u64 0), (.int .u32 0), (.int .u8 0), (.int .u8 0), (.int .u8 0), (.int .u8 0), .nilFunc, (.pointer none), (.int .i32 0), (.int .i32 0)]) := by kernel_rfl
@[go_sem] theorem tPlaces115 : tPlaces Try.prog 115 = some [(0, 1), (1, 1), (2, 1), (3, 1), (4, 1), (5, 1), (6, 1), (7, 1), (8, 1), (9, 1), (10, 1)] := by kernel_rfl
@[go_sem] theorem tField115_0 : tField Try.prog 115 0 = some (0, 12) := by kernel_rfl
@[go_sem] theorem tField115_1 : tField Try.prog 115 1 = some (1, 12) := by kernel_rfl
@[go_sem] theorem tField115_2 : tField Try.prog 115 2 = some (2, 108) := by kernel_rfl
@[go_sem] theorem tField115_3 : tField Try.prog 115 3 = some (3, 109) := by kernel_rfl
@[go_sem] theorem tField115_4 : tField Try.prog 115 4 = some (4, 5) := by kernel_rfl
@[go_sem] theorem tField115_5 : tField Try.prog 115 5 = some (5, 5) := by kernel_rfl
@[go_sem] theorem tField115_6 : tField Try.prog 115 6 = some (6, 110) := by kernel_rfl
@[go_sem] theorem tField115_7 : tField Try.prog 115 7 = some (7, 111) := by kernel_rfl
@[go_sem] theorem tField115_8 : tField Try.prog 115 8 = some (8, 112) := by kernel_rfl
@[go_sem] theorem tField115_9 : tField Try.prog 115 9 = some (9, 113) := by kernel_rfl
@[go_sem] theorem tField115_10 : tField Try.prog 115 10 = some (10, 114) := by kernel_rfl
@[go_sem] theorem tAgg116 : tAgg Try.prog 116 = some (some 11) := by kernel_rfl
@[go_sem] theorem tSize116 : tSize Try.prog 116 = some 11 := by kernel_rfl
@[go_sem] theorem tKind116 : tKind Try.prog 116 = some .oth := by kernel_rfl
@[go_sem] theorem tZero116 : tZero Try.prog 116 = some (.agg #[(.int .u64 0), (.int .u64 0), (.int .u32 0), (.int .u8 0), (.int .u8 0), (.int .u8 0), (.int .u8 0), .nilFunc, (.pointer none), (.int .i32 0), (.int .i32 0)]) := by kernel_rfl
@[go_sem] theorem tPlaces116 : tPlaces Try.prog 116 = some [(0, 1), (1, 1), (2, 1), (3, 1), (4, 1), (5, 1), (6, 1), (7, 1), (8, 1), (9, 1), (10, 1)] := by kernel_rfl
@[go_sem] theorem tField116_0 : tField Try.prog 116 0 = some (0, 12) := by kernel_rfl
@[go_sem] theorem tField116_1 : tField Try.prog 116 1 = some (1, 12) := by kernel_rfl
@[go_sem] theorem tField116_2 : tField Try.prog 116 2 = some (2, 108) := by kernel_rfl
@[go_sem] theorem tField116_3 : tField Try.prog 116 3 = some (3, 109) := by kernel_rfl
@[go_sem] theorem tField116_4 : tField Try.prog 116 4 = some (4, 5) := by kernel_rfl
@[go_sem] theorem tField116_5 : tField Try.prog 116 5 = some (5, 5) := by kernel_rfl
@[go_sem] theorem tField116_6 : tField Try.prog 116 6 = some (6, 110) := by kernel_rfl
@[go_sem] theorem tField116_7 : tField Try.prog 116 7 = some (7, 111) := by kernel_rfl
@[go_sem] theorem tField116_8 : tField Try.prog 116 8 = some (8, 112) := by kernel_rfl
@[go_sem] theorem tField116_9 : tField Try.prog 116 9 = some (9, 113) := by kernel_rfl
@[go_sem] theorem tField116_10 : tField Try.prog 116 10 = some (10, 114) := by kernel_rfl
theorem mixed : Try.prog.follows .mixedOrders = true := by kernel_rfl

end Go.Proofs.Ytkfjldkememadaa.AM
