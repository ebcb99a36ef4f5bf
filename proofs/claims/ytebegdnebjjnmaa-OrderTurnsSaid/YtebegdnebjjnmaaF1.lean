
/- Rows of bits: the builder's functions. No condition but lengths that fit. -/
import Derived.Test.YtebegdnebjjnmaaT
import Derived.Test.YtebegdnebjjnmaaM4
set_option linter.unusedVariables false
set_option linter.unusedSimpArgs false
set_option maxRecDepth 20000
namespace Go.Proofs.Ytebegdnebjjnmaa.AM
open Go Go.RowKit

/-- A row of bits, as the program has it. -/
def bitsV (l : List Bool) : IV := .agg [.int .i64 l.length, .sl 1 (ws l)]
def blsV (l : List Bool) : IV := .sl 1 (l.map .bool)
@[go_sem] theorem fold_bitsV (l : List Bool) {n : Int} (h : n = (l.length : Int)) : IV.agg [.int .i64 n, .sl 1 (ws l)] = bitsV l := by rw [h]; rfl
@[go_sem] theorem cells_bitsV (l : List Bool) : AV.cells (.iv (bitsV l)) = some [.iv (.int .i64 l.length), .iv (.sl 1 (ws l))] := rfl
@[go_sem] theorem icells_bitsV (l : List Bool) : IV.cells (bitsV l) = [.int .i64 l.length, .sl 1 (ws l)] := rfl
@[go_sem] theorem fits_bitsV (l : List Bool) : IV.fits 2 (bitsV l) = true := rfl
@[go_sem ↓] theorem toIVF_bitsV (M : List MO) (l : List Bool) : toIVF M (.iv (bitsV l)) = some (bitsV l, M) := rfl
@[go_sem] theorem fieldV_bitsV (ag : Option Nat) (off : Nat) (M : List MO) (l : List Bool) : fieldV ag off (.iv (bitsV l)) M = (elemPart ag (bitsV l) off).map fun v => (.p, .iv v, M) := rfl
@[go_sem] theorem wsAppGet (l : List Bool) (x : IV) {i : Nat} (h : i = (l.length + 63) / 64) : (ws l ++ [x])[i]? = some x := by
  rw [List.getElem?_append_right (by rw [ws_len]; omega), ws_len, h]; simp

@[go_sem] theorem wsTake (l : List Bool) {n : Nat} (h : (l.length + 63) / 64 ≤ n) : (ws l).take n = ws l := List.take_of_length_le (by rw [ws_len]; exact h)
@[go_sem] theorem replDrop (x : IV) {n k : Nat} (h : n ≤ k) : (List.replicate n x).drop k = [] := List.drop_of_length_le (by simpa using h)
@[go_sem] theorem getPB {α : Type} (p q : List α) (b : α) (f : α → IV) : ((p ++ b :: q).map f)[p.length]? = some (f b) := by simp
@[go_sem] theorem getDB {α : Type} (p q : List α) (b d : α) : (p ++ b :: q).getD p.length d = b := by simp [List.getD]
attribute [go_sem] Nat.min_self Nat.le_refl

end Go.Proofs.Ytebegdnebjjnmaa.AM
