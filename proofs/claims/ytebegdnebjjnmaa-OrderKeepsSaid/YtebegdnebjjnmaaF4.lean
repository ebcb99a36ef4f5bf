
/- Rows of bits: numbers put and read, bytes. No condition but lengths that fit. -/
import Derived.Test.YtebegdnebjjnmaaF3
import Derived.Test.YtebegdnebjjnmaaM4
set_option linter.unusedVariables false
set_option linter.unusedSimpArgs false
set_option maxRecDepth 20000
namespace Go.Proofs.Ytebegdnebjjnmaa.AM
open Go Go.RowKit

attribute [go_sem] bitsOf_len isU8
def fitsB (n : Nat) (w : Int) : Bool := decide (0 ≤ w ∧ w ≤ 64 ∧ n < 2 ^ w.toNat)
theorem oneAt_mid (p q : List Bool) (b : Bool) : oneAt (p ++ b :: q) (p.length : Int) = (b.toNat : Int) := by
  unfold oneAt
  rw [if_pos ⟨by omega, by simp; omega⟩]
  simp [List.getD]
theorem toNat_one (b : Bool) : decide ((b.toNat : Int) = 1) = b := by cases b <;> rfl
attribute [go_sem] toNat_one

end Go.Proofs.Ytebegdnebjjnmaa.AM
