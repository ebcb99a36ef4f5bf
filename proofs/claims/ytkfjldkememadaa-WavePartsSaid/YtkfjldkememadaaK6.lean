
/- Chapter 3: the rows that are drawn, the examples. No condition. -/
import Derived.Test.YtkfjldkememadaaK5
set_option linter.unusedVariables false
set_option linter.unusedSimpArgs false
set_option maxRecDepth 20000
namespace Go.Proofs.Ytkfjldkememadaa.AM
open Go Go.RowKit

theorem tmod100 (n : Int) : -100 < n.tmod 100 ∧ n.tmod 100 < 100 := ⟨Int.lt_tmod_of_pos n (by omega), Int.tmod_lt_of_pos n (by omega)⟩
def rowArg (bs : List Bool) (ts : List Int) : IV := .agg [.sl 1 (bs.map .bool), .sl 1 (ts.map (IV.int .i64))]
def timesAt (ts : List Int) (i : Nat) : Nat := if i < ts.length then ((ts.getD i 0).tmod 100).natAbs + 1 else 1
def addR (out : List Bool) (b : Bool) (k : Nat) : List Bool := out ++ List.replicate (min k (1500 - out.length)) b
def listR (bs : List Bool) (ts : List Int) : Nat → List Bool
  | 0 => []
  | n + 1 => addR (listR bs ts n) (bs.getD n false) (timesAt ts n)
theorem listR_len (bs : List Bool) (ts : List Int) : ∀ n, (listR bs ts n).length ≤ 1500
  | 0 => by simp [listR]
  | n + 1 => by
    have := listR_len bs ts n
    simp only [listR, addR, List.length_append, List.length_replicate]; omega
theorem times_le (ts : List Int) (i : Nat) : 1 ≤ timesAt ts i ∧ timesAt ts i ≤ 100 := by
  unfold timesAt
  split
  · have := tmod100 (ts.getD i 0); omega
  · omega
def repR (out : List Bool) (b : Bool) (j : Nat) : List Bool := out ++ List.replicate j b
theorem repR_succ (out : List Bool) (j : Nat) (b : Bool) : repR out b (j + 1) = repR out b j ++ [b] := by unfold repR; rw [List.replicate_succ', List.append_assoc]
theorem repR_zero (out : List Bool) (b : Bool) : repR out b 0 = out := by simp [repR]
theorem repR_len (out : List Bool) (b : Bool) (j : Nat) : (repR out b j).length = out.length + j := by simp [repR]

end Go.Proofs.Ytkfjldkememadaa.AM
