/- Of each type of the translation: cells, elements, zero values, fields. Written by wip/tools/types.py. No condition. -/
import Derived.Test.YtaenpfgljlahkaaA18
import Derived.Test.YtaenpfgljlahkaaProg
import Derived.KernelRfl
namespace Go.Proofs.Ytaenpfgljlahkaa.AM
open Go Go.RowKit

@[go_sem] theorem tAgg2 : tAgg Try.prog 2 = some none := by kernel_rfl
@[go_sem] theorem tSize2 : tSize Try.prog 2 = some 1 := by kernel_rfl
@[go_sem] theorem tKind2 : tKind Try.prog 2 = some (.int .i64) := by kernel_rfl
@[go_sem] theorem tZero2 : tZero Try.prog 2 = some (.int .i64 0) := by kernel_rfl
@[go_sem] theorem tAgg3 : tAgg Try.prog 3 = some none := by kernel_rfl
@[go_sem] theorem tSize3 : tSize Try.prog 3 = some 1 := by kernel_rfl
@[go_sem] theorem tKind3 : tKind Try.prog 3 = some (.int .i64) := by kernel_rfl
@[go_sem] theorem tZero3 : tZero Try.prog 3 = some (.int .i64 0) := by kernel_rfl
@[go_sem] theorem tAgg4 : tAgg Try.prog 4 = some none := by kernel_rfl
@[go_sem] theorem tSize4 : tSize Try.prog 4 = some 1 := by kernel_rfl
@[go_sem] theorem tKind4 : tKind Try.prog 4 = some .bool := by kernel_rfl
@[go_sem] theorem tZero4 : tZero Try.prog 4 = some (.bool false) := by kernel_rfl
@[go_sem] theorem tAgg5 : tAgg Try.prog 5 = some none := by kernel_rfl
@[go_sem] theorem tSize5 : tSize Try.prog 5 = some 1 := by kernel_rfl
@[go_sem] theorem tKind5 : tKind Try.prog 5 = some (.int .u8) := by kernel_rfl
@[go_sem] theorem tZero5 : tZero Try.prog 5 = some (.int .u8 0) := by kernel_rfl
@[go_sem] theorem tAgg6 : tAgg Try.prog 6 = some none := by kernel_rfl
@[go_sem] theorem tSize6 : tSize Try.prog 6 = some 1 := by kernel_rfl
@[go_sem] theorem tKind6 : tKind Try.prog 6 = some (.int .u8) := by kernel_rfl
@[go_sem] theorem tZero6 : tZero Try.prog 6 = some (.int .u8 0) := by kernel_rfl
@[go_sem] theorem tAgg7 : tAgg Try.prog 7 = some (some 4) := by kernel_rfl
@[go_sem] theorem tSize7 : tSize Try.prog 7 = some 4 := by kernel_rfl
@[go_sem] theorem tKind7 : tKind Try.prog 7 = some .oth := by kernel_rfl
@[go_sem] theorem tZero7 : tZero Try.prog 7 = some (.agg #[(.int .i64 0), (.int .i64 0), (.bool false), (.int .u8 0)]) := by kernel_rfl
@[go_sem] theorem tPlaces7 : tPlaces Try.prog 7 = some [(0, 1), (1, 1), (2, 1), (3, 1)] := by kernel_rfl
@[go_sem] theorem tField7_0 : tField Try.prog 7 0 = some (0, 2) := by kernel_rfl
@[go_sem] theorem tField7_1 : tField Try.prog 7 1 = some (1, 3) := by kernel_rfl
@[go_sem] theorem tField7_2 : tField Try.prog 7 2 = some (2, 4) := by kernel_rfl
@[go_sem] theorem tField7_3 : tField Try.prog 7 3 = some (3, 6) := by kernel_rfl
@[go_sem] theorem tAgg8 : tAgg Try.prog 8 = some (some 4) := by kernel_rfl
@[go_sem] theorem tSize8 : tSize Try.prog 8 = some 4 := by kernel_rfl
@[go_sem] theorem tKind8 : tKind Try.prog 8 = some .oth := by kernel_rfl
@[go_sem] theorem tZero8 : tZero Try.prog 8 = some (.agg #[(.int .i64 0), (.int .i64 0), (.bool false), (.int .u8 0)]) := by kernel_rfl
@[go_sem] theorem tPlaces8 : tPlaces Try.prog 8 = some [(0, 1), (1, 1), (2, 1), (3, 1)] := by kernel_rfl
@[go_sem] theorem tField8_0 : tField Try.prog 8 0 = some (0, 2) := by kernel_rfl
@[go_sem] theorem tField8_1 : tField Try.prog 8 1 = some (1, 3) := by kernel_rfl
@[go_sem] theorem tField8_2 : tField Try.prog 8 2 = some (2, 4) := by kernel_rfl
@[go_sem] theorem tField8_3 : tField Try.prog 8 3 = some (3, 6) := by kernel_rfl
@[go_sem] theorem tAgg9 : tAgg Try.prog 9 = some none := by kernel_rfl
@[go_sem] theorem tSize9 : tSize Try.prog 9 = some 1 := by kernel_rfl
@[go_sem] theorem tKind9 : tKind Try.prog 9 = some .str := by kernel_rfl
@[go_sem] theorem tZero9 : tZero Try.prog 9 = some (.string ⟨#[]⟩) := by kernel_rfl
@[go_sem] theorem tAgg10 : tAgg Try.prog 10 = some none := by kernel_rfl
@[go_sem] theorem tSize10 : tSize Try.prog 10 = some 1 := by kernel_rfl
@[go_sem] theorem tKind10 : tKind Try.prog 10 = some .str := by kernel_rfl
@[go_sem] theorem tZero10 : tZero Try.prog 10 = some (.string ⟨#[]⟩) := by kernel_rfl
@[go_sem] theorem tAgg11 : tAgg Try.prog 11 = some none := by kernel_rfl
@[go_sem] theorem tSize11 : tSize Try.prog 11 = some 1 := by kernel_rfl
@[go_sem] theorem tKind11 : tKind Try.prog 11 = some .str := by kernel_rfl
@[go_sem] theorem tZero11 : tZero Try.prog 11 = some (.string ⟨#[]⟩) := by kernel_rfl
@[go_sem] theorem tAgg12 : tAgg Try.prog 12 = some none := by kernel_rfl
@[go_sem] theorem tSize12 : tSize Try.prog 12 = some 1 := by kernel_rfl
@[go_sem] theorem tKind12 : tKind Try.prog 12 = some (.int .u64) := by kernel_rfl
@[go_sem] theorem tZero12 : tZero Try.prog 12 = some (.int .u64 0) := by kernel_rfl
@[go_sem] theorem tAgg13 : tAgg Try.prog 13 = some (some 2) := by kernel_rfl
@[go_sem] theorem tSize13 : tSize Try.prog 13 = some 2 := by kernel_rfl
@[go_sem] theorem tKind13 : tKind Try.prog 13 = some .oth := by kernel_rfl
@[go_sem] theorem tZero13 : tZero Try.prog 13 = some (.agg #[(.string ⟨#[]⟩), (.int .u64 0)]) := by kernel_rfl
@[go_sem] theorem tPlaces13 : tPlaces Try.prog 13 = some [(0, 1), (1, 1)] := by kernel_rfl
@[go_sem] theorem tField13_0 : tField Try.prog 13 0 = some (0, 9) := by kernel_rfl
@[go_sem] theorem tField13_1 : tField Try.prog 13 1 = some (1, 12) := by kernel_rfl
@[go_sem] theorem tAgg14 : tAgg Try.prog 14 = some (some 2) := by kernel_rfl
@[go_sem] theorem tSize14 : tSize Try.prog 14 = some 2 := by kernel_rfl
@[go_sem] theorem tKind14 : tKind Try.prog 14 = some .oth := by kernel_rfl
@[go_sem] theorem tZero14 : tZero Try.prog 14 = some (.agg #[(.string ⟨#[]⟩), (.int .u64 0)]) := by kernel_rfl
@[go_sem] theorem tPlaces14 : tPlaces Try.prog 14 = some [(0, 1), (1, 1)] := by kernel_rfl
@[go_sem] theorem tField14_0 : tField Try.prog 14 0 = some (0, 9) := by kernel_rfl
@[go_sem] theorem tField14_1 : tField Try.prog 14 1 = some (1, 12) := by kernel_rfl
@[go_sem] theorem tAgg15 : tAgg Try.prog 15 = some none := by kernel_rfl
@[go_sem] theorem tSize15 : tSize Try.prog 15 = some 1 := by kernel_rfl
@[go_sem] theorem tKind15 : tKind Try.prog 15 = some .ptr := by kernel_rfl
@[go_sem] theorem tZero15 : tZero Try.prog 15 = some (.pointer none) := by kernel_rfl
@[go_sem] theorem tAgg16 : tAgg Try.prog 16 = some none := by kernel_rfl
@[go_sem] theorem tSize16 : tSize Try.prog 16 = some 1 := by kernel_rfl
@[go_sem] theorem tKind16 : tKind Try.prog 16 = some .ptr := by kernel_rfl
@[go_sem] theorem tZero16 : tZero Try.prog 16 = some (.pointer none) := by kernel_rfl
@[go_sem] theorem tAgg17 : tAgg Try.prog 17 = some none := by kernel_rfl
@[go_sem] theorem tSize17 : tSize Try.prog 17 = some 1 := by kernel_rfl
@[go_sem] theorem tKind17 : tKind Try.prog 17 = some .ptr := by kernel_rfl
@[go_sem] theorem tZero17 : tZero Try.prog 17 = some (.pointer none) := by kernel_rfl
@[go_sem] theorem tAgg18 : tAgg Try.prog 18 = some (some 1) := by kernel_rfl
@[go_sem] theorem tSize18 : tSize Try.prog 18 = some 1 := by kernel_rfl
@[go_sem] theorem tKind18 : tKind Try.prog 18 = some .oth := by kernel_rfl
@[go_sem] theorem tZero18 : tZero Try.prog 18 = some (.agg #[(.pointer none)]) := by kernel_rfl
@[go_sem] theorem tPlaces18 : tPlaces Try.prog 18 = some [(0, 1)] := by kernel_rfl
@[go_sem] theorem tField18_0 : tField Try.prog 18 0 = some (0, 17) := by kernel_rfl
@[go_sem] theorem tAgg19 : tAgg Try.prog 19 = some (some 1) := by kernel_rfl
@[go_sem] theorem tSize19 : tSize Try.prog 19 = some 1 := by kernel_rfl
@[go_sem] theorem tKind19 : tKind Try.prog 19 = some .oth := by kernel_rfl
@[go_sem] theorem tZero19 : tZero Try.prog 19 = some (.agg #[(.pointer none)]) := by kernel_rfl
@[go_sem] theorem tPlaces19 : tPlaces Try.prog 19 = some [(0, 1)] := by kernel_rfl
@[go_sem] theorem tField19_0 : tField Try.prog 19 0 = some (0, 17) := by kernel_rfl
@[go_sem] theorem tAgg21 : tAgg Try.prog 21 = some none := by kernel_rfl
@[go_sem] theorem tSize21 : tSize Try.prog 21 = some 1 := by kernel_rfl
@[go_sem] theorem tKind21 : tKind Try.prog 21 = some (.int .i32) := by kernel_rfl
@[go_sem] theorem tZero21 : tZero Try.prog 21 = some (.int .i32 0) := by kernel_rfl
@[go_sem] theorem tAgg22 : tAgg Try.prog 22 = some none := by kernel_rfl
@[go_sem] theorem tSize22 : tSize Try.prog 22 = some 1 := by kernel_rfl
@[go_sem] theorem tKind22 : tKind Try.prog 22 = some .slc := by kernel_rfl
@[go_sem] theorem tZero22 : tZero Try.prog 22 = some (.slice none 0 0) := by kernel_rfl
@[go_sem] theorem tElem22 : tElem Try.prog 22 = some ⟨4, 1, 1, (.bool false)⟩ := by kernel_rfl
@[go_sem] theorem tAgg25 : tAgg Try.prog 25 = some none := by kernel_rfl
@[go_sem] theorem tSize25 : tSize Try.prog 25 = some 1 := by kernel_rfl
@[go_sem] theorem tKind25 : tKind Try.prog 25 = some .slc := by kernel_rfl
@[go_sem] theorem tZero25 : tZero Try.prog 25 = some (.slice none 0 0) := by kernel_rfl
@[go_sem] theorem tElem25 : tElem Try.prog 25 = some ⟨61, 1, 8, (.int .u64 0)⟩ := by kernel_rfl
@[go_sem] theorem tAgg26 : tAgg Try.prog 26 = some (some 2) := by kernel_rfl
@[go_sem] theorem tSize26 : tSize Try.prog 26 = some 2 := by kernel_rfl
@[go_sem] theorem tKind26 : tKind Try.prog 26 = some .oth := by kernel_rfl
@[go_sem] theorem tZero26 : tZero Try.prog 26 = some (.agg #[(.int .i64 0), (.slice none 0 0)]) := by kernel_rfl
@[go_sem] theorem tPlaces26 : tPlaces Try.prog 26 = some [(0, 1), (1, 1)] := by kernel_rfl
@[go_sem] theorem tField26_0 : tField Try.prog 26 0 = some (0, 3) := by kernel_rfl
@[go_sem] theorem tField26_1 : tField Try.prog 26 1 = some (1, 25) := by kernel_rfl
@[go_sem] theorem tAgg27 : tAgg Try.prog 27 = some (some 2) := by kernel_rfl
@[go_sem] theorem tSize27 : tSize Try.prog 27 = some 2 := by kernel_rfl
@[go_sem] theorem tKind27 : tKind Try.prog 27 = some .oth := by kernel_rfl
@[go_sem] theorem tZero27 : tZero Try.prog 27 = some (.agg #[(.int .i64 0), (.slice none 0 0)]) := by kernel_rfl
@[go_sem] theorem tPlaces27 : tPlaces Try.prog 27 = some [(0, 1), (1, 1)] := by kernel_rfl
@[go_sem] theorem tField27_0 : tField Try.prog 27 0 = some (0, 3) := by kernel_rfl
@[go_sem] theorem tField27_1 : tField Try.prog 27 1 = some (1, 25) := by kernel_rfl
@[go_sem] theorem tAgg31 : tAgg Try.prog 31 = some none := by kernel_rfl
@[go_sem] theorem tSize31 : tSize Try.prog 31 = some 1 := by kernel_rfl
@[go_sem] theorem tKind31 : tKind Try.prog 31 = some .ptr := by kernel_rfl
@[go_sem] theorem tZero31 : tZero Try.prog 31 = some (.pointer none) := by kernel_rfl
@[go_sem] theorem tAgg36 : tAgg Try.prog 36 = some none := by kernel_rfl
@[go_sem] theorem tSize36 : tSize Try.prog 36 = some 1 := by kernel_rfl
@[go_sem] theorem tKind36 : tKind Try.prog 36 = some .slc := by kernel_rfl
@[go_sem] theorem tZero36 : tZero Try.prog 36 = some (.slice none 0 0) := by kernel_rfl
@[go_sem] theorem tElem36 : tElem Try.prog 36 = some ⟨3, 1, 8, (.int .i64 0)⟩ := by kernel_rfl
@[go_sem] theorem tAgg38 : tAgg Try.prog 38 = some (some 4) := by kernel_rfl
@[go_sem] theorem tSize38 : tSize Try.prog 38 = some 4 := by kernel_rfl
@[go_sem] theorem tKind38 : tKind Try.prog 38 = some .oth := by kernel_rfl
@[go_sem] theorem tZero38 : tZero Try.prog 38 = some (.agg #[(.int .i64 0), (.int .i64 0), (.int .i64 0), (.slice none 0 0)]) := by kernel_rfl
@[go_sem] theorem tPlaces38 : tPlaces Try.prog 38 = some [(0, 1), (1, 1), (2, 2)] := by kernel_rfl
@[go_sem] theorem tField38_0 : tField Try.prog 38 0 = some (0, 3) := by kernel_rfl
@[go_sem] theorem tField38_1 : tField Try.prog 38 1 = some (1, 3) := by kernel_rfl
@[go_sem] theorem tField38_2 : tField Try.prog 38 2 = some (2, 27) := by kernel_rfl
@[go_sem] theorem tAgg39 : tAgg Try.prog 39 = some (some 4) := by kernel_rfl
@[go_sem] theorem tSize39 : tSize Try.prog 39 = some 4 := by kernel_rfl
@[go_sem] theorem tKind39 : tKind Try.prog 39 = some .oth := by kernel_rfl
@[go_sem] theorem tZero39 : tZero Try.prog 39 = some (.agg #[(.int .i64 0), (.int .i64 0), (.int .i64 0), (.slice none 0 0)]) := by kernel_rfl
@[go_sem] theorem tPlaces39 : tPlaces Try.prog 39 = some [(0, 1), (1, 1), (2, 2)] := by kernel_rfl
@[go_sem] theorem tField39_0 : tField Try.prog 39 0 = some (0, 3) := by kernel_rfl
@[go_sem] theorem tField39_1 : tField Try.prog 39 1 = some (1, 3) := by kernel_rfl
@[go_sem] theorem tField39_2 : tField Try.prog 39 2 = some (2, 27) := by kernel_rfl
@[go_sem] theorem tAgg40 : tAgg Try.prog 40 = some none := by kernel_rfl
@[go_sem] theorem tSize40 : tSize Try.prog 40 = some 1 := by kernel_rfl
@[go_sem] theorem tKind40 : tKind Try.prog 40 = some (.int .i64) := by kernel_rfl
@[go_sem] theorem tZero40 : tZero Try.prog 40 = some (.int .i64 0) := by kernel_rfl
@[go_sem] theorem tAgg45 : tAgg Try.prog 45 = some none := by kernel_rfl
@[go_sem] theorem tSize45 : tSize Try.prog 45 = some 1 := by kernel_rfl
@[go_sem] theorem tKind45 : tKind Try.prog 45 = some (.int .u64) := by kernel_rfl
@[go_sem] theorem tZero45 : tZero Try.prog 45 = some (.int .u64 0) := by kernel_rfl
@[go_sem] theorem tAgg49 : tAgg Try.prog 49 = some (some 2) := by kernel_rfl
@[go_sem] theorem tSize49 : tSize Try.prog 49 = some 2 := by kernel_rfl
@[go_sem] theorem tKind49 : tKind Try.prog 49 = some .oth := by kernel_rfl
@[go_sem] theorem tZero49 : tZero Try.prog 49 = some (.agg #[(.int .i64 0), (.int .i64 0)]) := by kernel_rfl
@[go_sem] theorem tArr49 : tArr Try.prog 49 = some (2, 3, 1) := by kernel_rfl
@[go_sem] theorem tAgg60 : tAgg Try.prog 60 = some none := by kernel_rfl
@[go_sem] theorem tSize60 : tSize Try.prog 60 = some 1 := by kernel_rfl
@[go_sem] theorem tKind60 : tKind Try.prog 60 = some .slc := by kernel_rfl
@[go_sem] theorem tZero60 : tZero Try.prog 60 = some (.slice none 0 0) := by kernel_rfl
@[go_sem] theorem tElem60 : tElem Try.prog 60 = some ⟨63, 3, 24, (.agg #[(.bool false), (.int .u64 0), (.int .i64 0)])⟩ := by kernel_rfl
@[go_sem] theorem tAgg61 : tAgg Try.prog 61 = some none := by kernel_rfl
@[go_sem] theorem tSize61 : tSize Try.prog 61 = some 1 := by kernel_rfl
@[go_sem] theorem tKind61 : tKind Try.prog 61 = some (.int .u64) := by kernel_rfl
@[go_sem] theorem tZero61 : tZero Try.prog 61 = some (.int .u64 0) := by kernel_rfl
@[go_sem] theorem tAgg62 : tAgg Try.prog 62 = some (some 3) := by kernel_rfl
@[go_sem] theorem tSize62 : tSize Try.prog 62 = some 3 := by kernel_rfl
@[go_sem] theorem tKind62 : tKind Try.prog 62 = some .oth := by kernel_rfl
@[go_sem] theorem tZero62 : tZero Try.prog 62 = some (.agg #[(.bool false), (.int .u64 0), (.int .i64 0)]) := by kernel_rfl
@[go_sem] theorem tPlaces62 : tPlaces Try.prog 62 = some [(0, 1), (1, 1), (2, 1)] := by kernel_rfl
@[go_sem] theorem tField62_0 : tField Try.prog 62 0 = some (0, 4) := by kernel_rfl
@[go_sem] theorem tField62_1 : tField Try.prog 62 1 = some (1, 61) := by kernel_rfl
@[go_sem] theorem tField62_2 : tField Try.prog 62 2 = some (2, 3) := by kernel_rfl
@[go_sem] theorem tAgg63 : tAgg Try.prog 63 = some (some 3) := by kernel_rfl
@[go_sem] theorem tSize63 : tSize Try.prog 63 = some 3 := by kernel_rfl
@[go_sem] theorem tKind63 : tKind Try.prog 63 = some .oth := by kernel_rfl
@[go_sem] theorem tZero63 : tZero Try.prog 63 = some (.agg #[(.bool false), (.int .u64 0), (.int .i64 0)]) := by kernel_rfl
@[go_sem] theorem tPlaces63 : tPlaces Try.prog 63 = some [(0, 1), (1, 1), (2, 1)] := by kernel_rfl
@[go_sem] theorem tField63_0 : tField Try.prog 63 0 = some (0, 4) := by kernel_rfl
@[go_sem] theorem tField63_1 : tField Try.prog 63 1 = some (1, 61) := by kernel_rfl
@[go_sem] theorem tField63_2 : tField Try.prog 63 2 = some (2, 3) := by kernel_rfl
@[go_sem] theorem tAgg74 : tAgg Try.prog 74 = some none := by kernel_rfl
@[go_sem] theorem tSize74 : tSize Try.prog 74 = some 1 := by kernel_rfl
@[go_sem] theorem tKind74 : tKind Try.prog 74 = some .slc := by kernel_rfl
@[go_sem] theorem tZero74 : tZero Try.prog 74 = some (.slice none 0 0) := by kernel_rfl
@[go_sem] theorem tElem74 : tElem Try.prog 74 = some ⟨5, 1, 1, (.int .u8 0)⟩ := by kernel_rfl
@[go_sem] theorem tAgg77 : tAgg Try.prog 77 = some (some 3) := by kernel_rfl
@[go_sem] theorem tSize77 : tSize Try.prog 77 = some 3 := by kernel_rfl
@[go_sem] theorem tKind77 : tKind Try.prog 77 = some .oth := by kernel_rfl
@[go_sem] theorem tZero77 : tZero Try.prog 77 = some (.agg #[(.int .i64 0), (.int .i64 0), (.int .i64 0)]) := by kernel_rfl
@[go_sem] theorem tArr77 : tArr Try.prog 77 = some (3, 3, 1) := by kernel_rfl
@[go_sem] theorem tAgg84 : tAgg Try.prog 84 = some (some 2) := by kernel_rfl
@[go_sem] theorem tSize84 : tSize Try.prog 84 = some 2 := by kernel_rfl
@[go_sem] theorem tKind84 : tKind Try.prog 84 = some .oth := by kernel_rfl
@[go_sem] theorem tZero84 : tZero Try.prog 84 = some (.agg #[(.int .i64 0), (.slice none 0 0)]) := by kernel_rfl
@[go_sem] theorem tPlaces84 : tPlaces Try.prog 84 = some [(0, 1), (1, 1)] := by kernel_rfl
@[go_sem] theorem tField84_0 : tField Try.prog 84 0 = some (0, 3) := by kernel_rfl
@[go_sem] theorem tField84_1 : tField Try.prog 84 1 = some (1, 25) := by kernel_rfl
@[go_sem] theorem tAgg93 : tAgg Try.prog 93 = some (some 2) := by kernel_rfl
@[go_sem] theorem tSize93 : tSize Try.prog 93 = some 2 := by kernel_rfl
@[go_sem] theorem tKind93 : tKind Try.prog 93 = some .oth := by kernel_rfl
@[go_sem] theorem tZero93 : tZero Try.prog 93 = some (.agg #[(.slice none 0 0), (.slice none 0 0)]) := by kernel_rfl
@[go_sem] theorem tPlaces93 : tPlaces Try.prog 93 = some [(0, 1), (1, 1)] := by kernel_rfl
@[go_sem] theorem tField93_0 : tField Try.prog 93 0 = some (0, 22) := by kernel_rfl
@[go_sem] theorem tField93_1 : tField Try.prog 93 1 = some (1, 36) := by kernel_rfl
@[go_sem] theorem tAgg94 : tAgg Try.prog 94 = some (some 2) := by kernel_rfl
@[go_sem] theorem tSize94 : tSize Try.prog 94 = some 2 := by kernel_rfl
@[go_sem] theorem tKind94 : tKind Try.prog 94 = some .oth := by kernel_rfl
@[go_sem] theorem tZero94 : tZero Try.prog 94 = some (.agg #[(.slice none 0 0), (.slice none 0 0)]) := by kernel_rfl
@[go_sem] theorem tPlaces94 : tPlaces Try.prog 94 = some [(0, 1), (1, 1)] := by kernel_rfl
@[go_sem] theorem tField94_0 : tField Try.prog 94 0 = some (0, 22) := by kernel_rfl
@[go_sem] theorem tField94_1 : tField Try.prog 94 1 = some (1, 36) := by kernel_rfl
@[go_sem] theorem tAgg95 : tAgg Try.prog 95 = some (some 7) := by kernel_rfl
@[go_sem] theorem tSize95 : tSize Try.prog 95 = some 7 := by kernel_rfl
@[go_sem] theorem tKind95 : tKind Try.prog 95 = some .oth := by kernel_rfl
@[go_sem] theorem tZero95 : tZero Try.prog 95 = some (.agg #[(.int .i64 0), (.slice none 0 0), (.int .i64 0), (.int .i64 0), (.int .i64 0), (.int .i64 0), (.slice none 0 0)]) := by kernel_rfl
@[go_sem] theorem tPlaces95 : tPlaces Try.prog 95 = some [(0, 2), (2, 1), (3, 4)] := by kernel_rfl
@[go_sem] theorem tField95_0 : tField Try.prog 95 0 = some (0, 27) := by kernel_rfl
@[go_sem] theorem tField95_1 : tField Try.prog 95 1 = some (2, 3) := by kernel_rfl
@[go_sem] theorem tField95_2 : tField Try.prog 95 2 = some (3, 39) := by kernel_rfl
@[go_sem] theorem tAgg96 : tAgg Try.prog 96 = some (some 7) := by kernel_rfl
@[go_sem] theorem tSize96 : tSize Try.prog 96 = some 7 := by kernel_rfl
@[go_sem] theorem tKind96 : tKind Try.prog 96 = some .oth := by kernel_rfl
@[go_sem] theorem tZero96 : tZero Try.prog 96 = some (.agg #[(.int .i64 0), (.slice none 0 0), (.int .i64 0), (.int .i64 0), (.int .i64 0), (.int .i64 0), (.slice none 0 0)]) := by kernel_rfl
@[go_sem] theorem tPlaces96 : tPlaces Try.prog 96 = some [(0, 2), (2, 1), (3, 4)] := by kernel_rfl
@[go_sem] theorem tField96_0 : tField Try.prog 96 0 = some (0, 27) := by kernel_rfl
@[go_sem] theorem tField96_1 : tField Try.prog 96 1 = some (2, 3) := by kernel_rfl
@[go_sem] theorem tField96_2 : tField Try.prog 96 2 = some (3, 39) := by kernel_rfl
@[go_sem] theorem tAgg104 : tAgg Try.prog 104 = some none := by kernel_rfl
@[go_sem] theorem tSize104 : tSize Try.prog 104 = some 1 := by kernel_rfl
@[go_sem] theorem tKind104 : tKind Try.prog 104 = some .slc := by kernel_rfl
@[go_sem] theorem tZero104 : tZero Try.prog 104 = some (.slice none 0 0) := by kernel_rfl
@[go_sem] theorem tElem104 : tElem Try.prog 104 = some ⟨96, 7, 88, (.agg #[(.int .i64 0), (.slice none 0 0), (.int .i64 0), (.int .i64 0), (.int .i64 0), (.int .i64 0), (.slice none 0 0)])⟩ := by kernel_rfl
@[go_sem] theorem tAgg105 : tAgg Try.prog 105 = some (some 3) := by kernel_rfl
@[go_sem] theorem tSize105 : tSize Try.prog 105 = some 3 := by kernel_rfl
@[go_sem] theorem tKind105 : tKind Try.prog 105 = some .oth := by kernel_rfl
@[go_sem] theorem tZero105 : tZero Try.prog 105 = some (.agg #[(.int .i64 0), (.int .i64 0), (.slice none 0 0)]) := by kernel_rfl
@[go_sem] theorem tPlaces105 : tPlaces Try.prog 105 = some [(0, 1), (1, 1), (2, 1)] := by kernel_rfl
@[go_sem] theorem tField105_0 : tField Try.prog 105 0 = some (0, 3) := by kernel_rfl
@[go_sem] theorem tField105_1 : tField Try.prog 105 1 = some (1, 3) := by kernel_rfl
@[go_sem] theorem tField105_2 : tField Try.prog 105 2 = some (2, 104) := by kernel_rfl
@[go_sem] theorem tAgg106 : tAgg Try.prog 106 = some (some 3) := by kernel_rfl
@[go_sem] theorem tSize106 : tSize Try.prog 106 = some 3 := by kernel_rfl
@[go_sem] theorem tKind106 : tKind Try.prog 106 = some .oth := by kernel_rfl
@[go_sem] theorem tZero106 : tZero Try.prog 106 = some (.agg #[(.int .i64 0), (.int .i64 0), (.slice none 0 0)]) := by kernel_rfl
@[go_sem] theorem tPlaces106 : tPlaces Try.prog 106 = some [(0, 1), (1, 1), (2, 1)] := by kernel_rfl
@[go_sem] theorem tField106_0 : tField Try.prog 106 0 = some (0, 3) := by kernel_rfl
@[go_sem] theorem tField106_1 : tField Try.prog 106 1 = some (1, 3) := by kernel_rfl
@[go_sem] theorem tField106_2 : tField Try.prog 106 2 = some (2, 104) := by kernel_rfl
@[go_sem] theorem tAgg114 : tAgg Try.prog 114 = some none := by kernel_rfl
@[go_sem] theorem tSize114 : tSize Try.prog 114 = some 1 := by kernel_rfl
@[go_sem] theorem tKind114 : tKind Try.prog 114 = some .slc := by kernel_rfl
@[go_sem] theorem tZero114 : tZero Try.prog 114 = some (.slice none 0 0) := by kernel_rfl
@[go_sem] theorem tElem114 : tElem Try.prog 114 = some ⟨27, 2, 32, (.agg #[(.int .i64 0), (.slice none 0 0)])⟩ := by kernel_rfl
@[go_sem] theorem tAgg116 : tAgg Try.prog 116 = some none := by kernel_rfl
@[go_sem] theorem tSize116 : tSize Try.prog 116 = some 1 := by kernel_rfl
@[go_sem] theorem tKind116 : tKind Try.prog 116 = some .slc := by kernel_rfl
@[go_sem] theorem tZero116 : tZero Try.prog 116 = some (.slice none 0 0) := by kernel_rfl
@[go_sem] theorem tElem116 : tElem Try.prog 116 = some ⟨22, 1, 24, (.slice none 0 0)⟩ := by kernel_rfl
@[go_sem] theorem tAgg120 : tAgg Try.prog 120 = some none := by kernel_rfl
@[go_sem] theorem tSize120 : tSize Try.prog 120 = some 1 := by kernel_rfl
@[go_sem] theorem tKind120 : tKind Try.prog 120 = some .slc := by kernel_rfl
@[go_sem] theorem tZero120 : tZero Try.prog 120 = some (.slice none 0 0) := by kernel_rfl
@[go_sem] theorem tElem120 : tElem Try.prog 120 = some ⟨9, 1, 16, (.string ⟨#[]⟩)⟩ := by kernel_rfl
@[go_sem] theorem tAgg122 : tAgg Try.prog 122 = some none := by kernel_rfl
@[go_sem] theorem tSize122 : tSize Try.prog 122 = some 1 := by kernel_rfl
@[go_sem] theorem tKind122 : tKind Try.prog 122 = some .map := by kernel_rfl
@[go_sem] theorem tZero122 : tZero Try.prog 122 = some (.map none) := by kernel_rfl
@[go_sem] theorem tAgg123 : tAgg Try.prog 123 = some none := by kernel_rfl
@[go_sem] theorem tSize123 : tSize Try.prog 123 = some 1 := by kernel_rfl
@[go_sem] theorem tKind123 : tKind Try.prog 123 = some .map := by kernel_rfl
@[go_sem] theorem tZero123 : tZero Try.prog 123 = some (.map none) := by kernel_rfl
@[go_sem] theorem tAgg124 : tAgg Try.prog 124 = some (some 5) := by kernel_rfl
@[go_sem] theorem tSize124 : tSize Try.prog 124 = some 5 := by kernel_rfl
@[go_sem] theorem tKind124 : tKind Try.prog 124 = some .oth := by kernel_rfl
@[go_sem] theorem tZero124 : tZero Try.prog 124 = some (.agg #[(.int .i64 0), (.int .i64 0), (.slice none 0 0), (.map none), (.map none)]) := by kernel_rfl
@[go_sem] theorem tPlaces124 : tPlaces Try.prog 124 = some [(0, 1), (1, 1), (2, 1), (3, 1), (4, 1)] := by kernel_rfl
@[go_sem] theorem tField124_0 : tField Try.prog 124 0 = some (0, 3) := by kernel_rfl
@[go_sem] theorem tField124_1 : tField Try.prog 124 1 = some (1, 3) := by kernel_rfl
@[go_sem] theorem tField124_2 : tField Try.prog 124 2 = some (2, 120) := by kernel_rfl
@[go_sem] theorem tField124_3 : tField Try.prog 124 3 = some (3, 122) := by kernel_rfl
@[go_sem] theorem tField124_4 : tField Try.prog 124 4 = some (4, 123) := by kernel_rfl
@[go_sem] theorem tAgg125 : tAgg Try.prog 125 = some (some 5) := by kernel_rfl
@[go_sem] theorem tSize125 : tSize Try.prog 125 = some 5 := by kernel_rfl
@[go_sem] theorem tKind125 : tKind Try.prog 125 = some .oth := by kernel_rfl
@[go_sem] theorem tZero125 : tZero Try.prog 125 = some (.agg #[(.int .i64 0), (.int .i64 0), (.slice none 0 0), (.map none), (.map none)]) := by kernel_rfl
@[go_sem] theorem tPlaces125 : tPlaces Try.prog 125 = some [(0, 1), (1, 1), (2, 1), (3, 1), (4, 1)] := by kernel_rfl
@[go_sem] theorem tField125_0 : tField Try.prog 125 0 = some (0, 3) := by kernel_rfl
@[go_sem] theorem tField125_1 : tField Try.prog 125 1 = some (1, 3) := by kernel_rfl
@[go_sem] theorem tField125_2 : tField Try.prog 125 2 = some (2, 120) := by kernel_rfl
@[go_sem] theorem tField125_3 : tField Try.prog 125 3 = some (3, 122) := by kernel_rfl
@[go_sem] theorem tField125_4 : tField Try.prog 125 4 = some (4, 123) := by kernel_rfl
@[go_sem] theorem tAgg134 : tAgg Try.prog 134 = some (some 2) := by kernel_rfl
@[go_sem] theorem tSize134 : tSize Try.prog 134 = some 2 := by kernel_rfl
@[go_sem] theorem tKind134 : tKind Try.prog 134 = some .oth := by kernel_rfl
@[go_sem] theorem tZero134 : tZero Try.prog 134 = some (.agg #[(.int .i64 0), (.int .i64 0)]) := by kernel_rfl
@[go_sem] theorem tPlaces134 : tPlaces Try.prog 134 = some [(0, 1), (1, 1)] := by kernel_rfl
@[go_sem] theorem tField134_0 : tField Try.prog 134 0 = some (0, 3) := by kernel_rfl
@[go_sem] theorem tField134_1 : tField Try.prog 134 1 = some (1, 3) := by kernel_rfl
@[go_sem] theorem tAgg135 : tAgg Try.prog 135 = some (some 2) := by kernel_rfl
@[go_sem] theorem tSize135 : tSize Try.prog 135 = some 2 := by kernel_rfl
@[go_sem] theorem tKind135 : tKind Try.prog 135 = some .oth := by kernel_rfl
@[go_sem] theorem tZero135 : tZero Try.prog 135 = some (.agg #[(.int .i64 0), (.int .i64 0)]) := by kernel_rfl
@[go_sem] theorem tPlaces135 : tPlaces Try.prog 135 = some [(0, 1), (1, 1)] := by kernel_rfl
@[go_sem] theorem tField135_0 : tField Try.prog 135 0 = some (0, 3) := by kernel_rfl
@[go_sem] theorem tField135_1 : tField Try.prog 135 1 = some (1, 3) := by kernel_rfl
@[go_sem] theorem tAgg138 : tAgg Try.prog 138 = some none := by kernel_rfl
@[go_sem] theorem tSize138 : tSize Try.prog 138 = some 1 := by kernel_rfl
@[go_sem] theorem tKind138 : tKind Try.prog 138 = some .slc := by kernel_rfl
@[go_sem] theorem tZero138 : tZero Try.prog 138 = some (.slice none 0 0) := by kernel_rfl
@[go_sem] theorem tElem138 : tElem Try.prog 138 = some ⟨135, 2, 16, (.agg #[(.int .i64 0), (.int .i64 0)])⟩ := by kernel_rfl
@[go_sem] theorem tAgg147 : tAgg Try.prog 147 = some none := by kernel_rfl
@[go_sem] theorem tSize147 : tSize Try.prog 147 = some 1 := by kernel_rfl
@[go_sem] theorem tKind147 : tKind Try.prog 147 = some .map := by kernel_rfl
@[go_sem] theorem tZero147 : tZero Try.prog 147 = some (.map none) := by kernel_rfl
@[go_sem] theorem tAgg153 : tAgg Try.prog 153 = some none := by kernel_rfl
@[go_sem] theorem tSize153 : tSize Try.prog 153 = some 1 := by kernel_rfl
@[go_sem] theorem tKind153 : tKind Try.prog 153 = some .slc := by kernel_rfl
@[go_sem] theorem tZero153 : tZero Try.prog 153 = some (.slice none 0 0) := by kernel_rfl
@[go_sem] theorem tElem153 : tElem Try.prog 153 = some ⟨155, 3, 40, (.agg #[(.int .i64 0), (.int .i64 0), (.slice none 0 0)])⟩ := by kernel_rfl
@[go_sem] theorem tAgg154 : tAgg Try.prog 154 = some (some 3) := by kernel_rfl
@[go_sem] theorem tSize154 : tSize Try.prog 154 = some 3 := by kernel_rfl
@[go_sem] theorem tKind154 : tKind Try.prog 154 = some .oth := by kernel_rfl
@[go_sem] theorem tZero154 : tZero Try.prog 154 = some (.agg #[(.int .i64 0), (.int .i64 0), (.slice none 0 0)]) := by kernel_rfl
@[go_sem] theorem tPlaces154 : tPlaces Try.prog 154 = some [(0, 1), (1, 1), (2, 1)] := by kernel_rfl
@[go_sem] theorem tField154_0 : tField Try.prog 154 0 = some (0, 3) := by kernel_rfl
@[go_sem] theorem tField154_1 : tField Try.prog 154 1 = some (1, 3) := by kernel_rfl
@[go_sem] theorem tField154_2 : tField Try.prog 154 2 = some (2, 36) := by kernel_rfl
@[go_sem] theorem tAgg155 : tAgg Try.prog 155 = some (some 3) := by kernel_rfl
@[go_sem] theorem tSize155 : tSize Try.prog 155 = some 3 := by kernel_rfl
@[go_sem] theorem tKind155 : tKind Try.prog 155 = some .oth := by kernel_rfl
@[go_sem] theorem tZero155 : tZero Try.prog 155 = some (.agg #[(.int .i64 0), (.int .i64 0), (.slice none 0 0)]) := by kernel_rfl
@[go_sem] theorem tPlaces155 : tPlaces Try.prog 155 = some [(0, 1), (1, 1), (2, 1)] := by kernel_rfl
@[go_sem] theorem tField155_0 : tField Try.prog 155 0 = some (0, 3) := by kernel_rfl
@[go_sem] theorem tField155_1 : tField Try.prog 155 1 = some (1, 3) := by kernel_rfl
@[go_sem] theorem tField155_2 : tField Try.prog 155 2 = some (2, 36) := by kernel_rfl
@[go_sem] theorem tAgg169 : tAgg Try.prog 169 = some none := by kernel_rfl
@[go_sem] theorem tSize169 : tSize Try.prog 169 = some 1 := by kernel_rfl
@[go_sem] theorem tKind169 : tKind Try.prog 169 = some .ptr := by kernel_rfl
@[go_sem] theorem tZero169 : tZero Try.prog 169 = some (.pointer none) := by kernel_rfl
@[go_sem] theorem tAgg170 : tAgg Try.prog 170 = some (some 2) := by kernel_rfl
@[go_sem] theorem tSize170 : tSize Try.prog 170 = some 2 := by kernel_rfl
@[go_sem] theorem tKind170 : tKind Try.prog 170 = some .oth := by kernel_rfl
@[go_sem] theorem tZero170 : tZero Try.prog 170 = some (.agg #[(.pointer none), (.slice none 0 0)]) := by kernel_rfl
@[go_sem] theorem tPlaces170 : tPlaces Try.prog 170 = some [(0, 1), (1, 1)] := by kernel_rfl
@[go_sem] theorem tField170_0 : tField Try.prog 170 0 = some (0, 169) := by kernel_rfl
@[go_sem] theorem tField170_1 : tField Try.prog 170 1 = some (1, 74) := by kernel_rfl
@[go_sem] theorem tAgg171 : tAgg Try.prog 171 = some (some 2) := by kernel_rfl
@[go_sem] theorem tSize171 : tSize Try.prog 171 = some 2 := by kernel_rfl
@[go_sem] theorem tKind171 : tKind Try.prog 171 = some .oth := by kernel_rfl
@[go_sem] theorem tZero171 : tZero Try.prog 171 = some (.agg #[(.pointer none), (.slice none 0 0)]) := by kernel_rfl
@[go_sem] theorem tPlaces171 : tPlaces Try.prog 171 = some [(0, 1), (1, 1)] := by kernel_rfl
@[go_sem] theorem tField171_0 : tField Try.prog 171 0 = some (0, 169) := by kernel_rfl
@[go_sem] theorem tField171_1 : tField Try.prog 171 1 = some (1, 74) := by kernel_rfl
@[go_sem] theorem tAgg179 : tAgg Try.prog 179 = some none := by kernel_rfl
@[go_sem] theorem tSize179 : tSize Try.prog 179 = some 1 := by kernel_rfl
@[go_sem] theorem tKind179 : tKind Try.prog 179 = some .slc := by kernel_rfl
@[go_sem] theorem tZero179 : tZero Try.prog 179 = some (.slice none 0 0) := by kernel_rfl
@[go_sem] theorem tElem179 : tElem Try.prog 179 = some ⟨36, 1, 24, (.slice none 0 0)⟩ := by kernel_rfl
@[go_sem] theorem tAgg184 : tAgg Try.prog 184 = some none := by kernel_rfl
@[go_sem] theorem tSize184 : tSize Try.prog 184 = some 1 := by kernel_rfl
@[go_sem] theorem tKind184 : tKind Try.prog 184 = some (.int .u32) := by kernel_rfl
@[go_sem] theorem tZero184 : tZero Try.prog 184 = some (.int .u32 0) := by kernel_rfl
@[go_sem] theorem tAgg189 : tAgg Try.prog 189 = some none := by kernel_rfl
@[go_sem] theorem tSize189 : tSize Try.prog 189 = some 1 := by kernel_rfl
@[go_sem] theorem tKind189 : tKind Try.prog 189 = some .ptr := by kernel_rfl
@[go_sem] theorem tZero189 : tZero Try.prog 189 = some (.pointer none) := by kernel_rfl
@[go_sem] theorem tAgg191 : tAgg Try.prog 191 = some none := by kernel_rfl
@[go_sem] theorem tSize191 : tSize Try.prog 191 = some 1 := by kernel_rfl
@[go_sem] theorem tKind191 : tKind Try.prog 191 = some (.int .i64) := by kernel_rfl
@[go_sem] theorem tZero191 : tZero Try.prog 191 = some (.int .i64 0) := by kernel_rfl
@[go_sem] theorem tAgg201 : tAgg Try.prog 201 = some none := by kernel_rfl
@[go_sem] theorem tSize201 : tSize Try.prog 201 = some 1 := by kernel_rfl
@[go_sem] theorem tKind201 : tKind Try.prog 201 = some (.int .u64) := by kernel_rfl
@[go_sem] theorem tZero201 : tZero Try.prog 201 = some (.int .u64 0) := by kernel_rfl
@[go_sem] theorem tAgg205 : tAgg Try.prog 205 = some none := by kernel_rfl
@[go_sem] theorem tSize205 : tSize Try.prog 205 = some 1 := by kernel_rfl
@[go_sem] theorem tKind205 : tKind Try.prog 205 = some .ptr := by kernel_rfl
@[go_sem] theorem tZero205 : tZero Try.prog 205 = some (.pointer none) := by kernel_rfl
@[go_sem] theorem tAgg208 : tAgg Try.prog 208 = some none := by kernel_rfl
@[go_sem] theorem tSize208 : tSize Try.prog 208 = some 1 := by kernel_rfl
@[go_sem] theorem tKind208 : tKind Try.prog 208 = some .ptr := by kernel_rfl
@[go_sem] theorem tZero208 : tZero Try.prog 208 = some (.pointer none) := by kernel_rfl
@[go_sem] theorem tAgg211 : tAgg Try.prog 211 = some (some 4) := by kernel_rfl
@[go_sem] theorem tSize211 : tSize Try.prog 211 = some 4 := by kernel_rfl
@[go_sem] theorem tKind211 : tKind Try.prog 211 = some .oth := by kernel_rfl
@[go_sem] theorem tZero211 : tZero Try.prog 211 = some (.agg #[(.pointer none), (.pointer none), (.pointer none), (.string ⟨#[]⟩)]) := by kernel_rfl
@[go_sem] theorem tPlaces211 : tPlaces Try.prog 211 = some [(0, 1), (1, 1), (2, 1), (3, 1)] := by kernel_rfl
@[go_sem] theorem tField211_0 : tField Try.prog 211 0 = some (0, 17) := by kernel_rfl
@[go_sem] theorem tField211_1 : tField Try.prog 211 1 = some (1, 17) := by kernel_rfl
@[go_sem] theorem tField211_2 : tField Try.prog 211 2 = some (2, 17) := by kernel_rfl
@[go_sem] theorem tField211_3 : tField Try.prog 211 3 = some (3, 9) := by kernel_rfl
@[go_sem] theorem tAgg212 : tAgg Try.prog 212 = some (some 4) := by kernel_rfl
@[go_sem] theorem tSize212 : tSize Try.prog 212 = some 4 := by kernel_rfl
@[go_sem] theorem tKind212 : tKind Try.prog 212 = some .oth := by kernel_rfl
@[go_sem] theorem tZero212 : tZero Try.prog 212 = some (.agg #[(.pointer none), (.pointer none), (.pointer none), (.string ⟨#[]⟩)]) := by kernel_rfl
@[go_sem] theorem tPlaces212 : tPlaces Try.prog 212 = some [(0, 1), (1, 1), (2, 1), (3, 1)] := by kernel_rfl
@[go_sem] theorem tField212_0 : tField Try.prog 212 0 = some (0, 17) := by kernel_rfl
@[go_sem] theorem tField212_1 : tField Try.prog 212 1 = some (1, 17) := by kernel_rfl
@[go_sem] theorem tField212_2 : tField Try.prog 212 2 = some (2, 17) := by kernel_rfl
@[go_sem] theorem tField212_3 : tField Try.prog 212 3 = some (3, 9) := by kernel_rfl
@[go_sem] theorem tAgg213 : tAgg Try.prog 213 = some (some 0) := by kernel_rfl
@[go_sem] theorem tSize213 : tSize Try.prog 213 = some 0 := by kernel_rfl
@[go_sem] theorem tKind213 : tKind Try.prog 213 = some .oth := by kernel_rfl
@[go_sem] theorem tZero213 : tZero Try.prog 213 = some (.agg #[]) := by kernel_rfl
@[go_sem] theorem tAgg214 : tAgg Try.prog 214 = some (some 0) := by kernel_rfl
@[go_sem] theorem tSize214 : tSize Try.prog 214 = some 0 := by kernel_rfl
@[go_sem] theorem tKind214 : tKind Try.prog 214 = some .oth := by kernel_rfl
@[go_sem] theorem tZero214 : tZero Try.prog 214 = some (.agg #[]) := by kernel_rfl
@[go_sem] theorem tPlaces214 : tPlaces Try.prog 214 = some [(0, 0)] := by kernel_rfl
@[go_sem] theorem tAgg215 : tAgg Try.prog 215 = some (some 0) := by kernel_rfl
@[go_sem] theorem tSize215 : tSize Try.prog 215 = some 0 := by kernel_rfl
@[go_sem] theorem tKind215 : tKind Try.prog 215 = some .oth := by kernel_rfl
@[go_sem] theorem tZero215 : tZero Try.prog 215 = some (.agg #[]) := by kernel_rfl
@[go_sem] theorem tPlaces215 : tPlaces Try.prog 215 = some [(0, 0)] := by kernel_rfl
@[go_sem] theorem tAgg216 : tAgg Try.prog 216 = some none := by kernel_rfl
@[go_sem] theorem tSize216 : tSize Try.prog 216 = some 1 := by kernel_rfl
@[go_sem] theorem tKind216 : tKind Try.prog 216 = some (.int .u8) := by kernel_rfl
@[go_sem] theorem tZero216 : tZero Try.prog 216 = some (.int .u8 0) := by kernel_rfl
@[go_sem] theorem tAgg217 : tAgg Try.prog 217 = some none := by kernel_rfl
@[go_sem] theorem tSize217 : tSize Try.prog 217 = some 1 := by kernel_rfl
@[go_sem] theorem tKind217 : tKind Try.prog 217 = some (.int .u8) := by kernel_rfl
@[go_sem] theorem tZero217 : tZero Try.prog 217 = some (.int .u8 0) := by kernel_rfl
@[go_sem] theorem tAgg219 : tAgg Try.prog 219 = some none := by kernel_rfl
@[go_sem] theorem tSize219 : tSize Try.prog 219 = some 1 := by kernel_rfl
@[go_sem] theorem tKind219 : tKind Try.prog 219 = some (.int .i32) := by kernel_rfl
@[go_sem] theorem tZero219 : tZero Try.prog 219 = some (.int .i32 0) := by kernel_rfl
@[go_sem] theorem tAgg220 : tAgg Try.prog 220 = some none := by kernel_rfl
@[go_sem] theorem tSize220 : tSize Try.prog 220 = some 1 := by kernel_rfl
@[go_sem] theorem tKind220 : tKind Try.prog 220 = some (.int .i32) := by kernel_rfl
@[go_sem] theorem tZero220 : tZero Try.prog 220 = some (.int .i32 0) := by kernel_rfl
@[go_sem] theorem tAgg221 : tAgg Try.prog 221 = some (some 11) := by kernel_rfl
@[go_sem] theorem tSize221 : tSize Try.prog 221 = some 11 := by kernel_rfl
@[go_sem] theorem tKind221 : tKind Try.prog 221 = some .oth := by kernel_rfl
@[go_sem] theorem tZero221 : tZero Try.prog 221 = some (.agg #[(.int .u64 0), (.int .u64 0), (.int .u32 0), (.int .u8 0), (.int .u8 0), (.int .u8 0), (.int .u8 0), .nilFunc, (.pointer none), (.int .i32 0), (.int .i32 0)]) := by kernel_rfl
@[go_sem] theorem tPlaces221 : tPlaces Try.prog 221 = some [(0, 1), (1, 1), (2, 1), (3, 1), (4, 1), (5, 1), (6, 1), (7, 1), (8, 1), (9, 1), (10, 1)] := by kernel_rfl
@[go_sem] theorem tField221_0 : tField Try.prog 221 0 = some (0, 12) := by kernel_rfl
@[go_sem] theorem tField221_1 : tField Try.prog 221 1 = some (1, 12) := by kernel_rfl
@[go_sem] theorem tField221_2 : tField Try.prog 221 2 = some (2, 184) := by kernel_rfl
@[go_sem] theorem tField221_3 : tField Try.prog 221 3 = some (3, 216) := by kernel_rfl
@[go_sem] theorem tField221_4 : tField Try.prog 221 4 = some (4, 5) := by kernel_rfl
@[go_sem] theorem tField221_5 : tField Try.prog 221 5 = some (5, 5) := by kernel_rfl
@[go_sem] theorem tField221_6 : tField Try.prog 221 6 = some (6, 217) := by kernel_rfl
@[go_sem] theorem tField221_7 : tField Try.prog 221 7 = some (7, 218) := by kernel_rfl
@[go_sem] theorem tField221_8 : tField Try.prog 221 8 = some (8, 189) := by kernel_rfl
@[go_sem] theorem tField221_9 : tField Try.prog 221 9 = some (9, 219) := by kernel_rfl
@[go_sem] theorem tField221_10 : tField Try.prog 221 10 = some (10, 220) := by kernel_rfl
@[go_sem] theorem tAgg222 : tAgg Try.prog 222 = some (some 11) := by kernel_rfl
@[go_sem] theorem tSize222 : tSize Try.prog 222 = some 11 := by kernel_rfl
@[go_sem] theorem tKind222 : tKind Try.prog 222 = some .oth := by kernel_rfl
@[go_sem] theorem tZero222 : tZero Try.prog 222 = some (.agg #[(.int .u64 0), (.int .u64 0), (.int .u32 0), (.int .u8 0), (.int .u8 0), (.int .u8 0), (.int .u8 0), .nilFunc, (.pointer none), (.int .i32 0), (.int .i32 0)]) := by kernel_rfl
@[go_sem] theorem tPlaces222 : tPlaces Try.prog 222 = some [(0, 1), (1, 1), (2, 1), (3, 1), (4, 1), (5, 1), (6, 1), (7, 1), (8, 1), (9, 1), (10, 1)] := by kernel_rfl
@[go_sem] theorem tField222_0 : tField Try.prog 222 0 = some (0, 12) := by kernel_rfl
@[go_sem] theorem tField222_1 : tField Try.prog 222 1 = some (1, 12) := by kernel_rfl
@[go_sem] theorem tField222_2 : tField Try.prog 222 2 = some (2, 184) := by kernel_rfl
@[go_sem] theorem tField222_3 : tField Try.prog 222 3 = some (3, 216) := by kernel_rfl
@[go_sem] theorem tField222_4 : tField Try.prog 222 4 = some (4, 5) := by kernel_rfl
@[go_sem] theorem tField222_5 : tField Try.prog 222 5 = some (5, 5) := by kernel_rfl
@[go_sem] theorem tField222_6 : tField Try.prog 222 6 = some (6, 217) := by kernel_rfl
@[go_sem] theorem tField222_7 : tField Try.prog 222 7 = some (7, 218) := by kernel_rfl
@[go_sem] theorem tField222_8 : tField Try.prog 222 8 = some (8, 189) := by kernel_rfl
@[go_sem] theorem tField222_9 : tField Try.prog 222 9 = some (9, 219) := by kernel_rfl
@[go_sem] theorem tField222_10 : tField Try.prog 222 10 = some (10, 220) := by kernel_rfl
theorem mixed : Try.prog.follows .mixedOrders = true := by kernel_rfl

end Go.Proofs.Ytaenpfgljlahkaa.AM
