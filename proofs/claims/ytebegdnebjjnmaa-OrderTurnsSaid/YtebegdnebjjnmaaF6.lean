
/- The laws of rows of bits: their own helpers, and the document's examples. No condition. -/
import Derived.Test.YtebegdnebjjnmaaF5
import Derived.KernelRfl
set_option linter.unusedVariables false
set_option linter.unusedSimpArgs false
set_option maxRecDepth 20000
namespace Go.Proofs.Ytebegdnebjjnmaa.AM
open Go Go.RowKit

attribute [go_sem] blsV
/-- Are both rows as long, and the same up to a place? -/
def isAt (a b : List Bool) (i : Nat) : Bool := decide (a.length = b.length) && decide (a.take i = b.take i)
theorem isAt_succ (a b : List Bool) (i : Nat) (ha : i < a.length) (hb : i < b.length) : isAt a b (i + 1) = (isAt a b i && (a.getD i false == b.getD i false)) := by
  unfold isAt
  rw [Bool.and_assoc]
  congr 1
  rw [List.take_add_one, List.take_add_one, List.getElem?_eq_getElem ha, List.getElem?_eq_getElem hb]
  have hl : (a.take i).length = (b.take i).length := by rw [List.length_take, List.length_take]; omega
  have e : (a.take i ++ (some a[i]).toList = b.take i ++ (some b[i]).toList) ↔ (a.take i = b.take i ∧ a[i] = b[i]) := by
    constructor
    · intro h
      have := List.append_inj h hl
      exact ⟨this.1, by simpa using this.2⟩
    · rintro ⟨h1, h2⟩; rw [h1, h2]
  rw [decide_eq_decide.2 e, Bool.decide_and]
  congr 1
  simp only [List.getD_eq_getElem?_getD, List.getElem?_eq_getElem ha, List.getElem?_eq_getElem hb, Option.getD_some]
  cases a[i] <;> cases b[i] <;> rfl
theorem isAt_end (a b : List Bool) (i : Nat) (h : a.length ≤ i ∨ b.length ≤ i) : isAt a b i = decide (a = b) := by
  unfold isAt
  by_cases hl : a.length = b.length
  · rw [List.take_of_length_le (by omega), List.take_of_length_le (by omega), decide_eq_true hl, Bool.true_and]
  · have : a ≠ b := fun e => hl (by rw [e])
    rw [decide_eq_false hl, decide_eq_false this, Bool.false_and]

end Go.Proofs.Ytebegdnebjjnmaa.AM
