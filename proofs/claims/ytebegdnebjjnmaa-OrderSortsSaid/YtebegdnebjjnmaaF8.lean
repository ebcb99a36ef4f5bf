
/- The law BitsCount, as a call. No condition. -/
import Derived.Test.YtebegdnebjjnmaaF7
set_option linter.unusedVariables false
set_option linter.unusedSimpArgs false
set_option maxRecDepth 20000
namespace Go.Proofs.Ytebegdnebjjnmaa.AM
open Go Go.RowKit

theorem cnt_succ (l : List Bool) (j : Nat) (h : j < l.length) : (cnt l (j + 1) : Int) = cnt l j + oneAt l j := by
  rw [cnt_add]
  unfold oneAt
  rw [if_pos ⟨by omega, by omega⟩, Int.toNat_natCast]
  have e : (l.drop j).take 1 = [l.getD j false] := by
    rw [List.drop_eq_getElem_cons h, List.take_succ_cons, List.take_zero]
    simp [List.getD, List.getElem?_eq_getElem h]
  rw [e]
  cases l.getD j false <;> simp
theorem ones_one (l : List Bool) (j : Nat) (h : j < l.length) : onesAt l j ((j : Int) + 1) = oneAt l j := by
  rw [onesAt_in l (by omega) (by omega) (by omega), Int.toNat_natCast, show ((j : Int) + 1).toNat = j + 1 from by omega, cnt_succ l j h]; omega
theorem ones_parts (l : List Bool) {k : Int} (h0 : 0 ≤ k) (h1 : k ≤ l.length) : onesAt l 0 k + onesAt l k l.length = (cnt l l.length : Int) := by
  rw [onesAt_in l (by omega) h0 h1, onesAt_in l h0 h1 (by omega), Int.toNat_natCast, show ((0 : Int)).toNat = 0 from rfl, cnt_zero]; omega
theorem ones_whole (l : List Bool) : onesAt l 0 l.length = (cnt l l.length : Int) := by
  rw [onesAt_in l (by omega) (by omega) (by omega), Int.toNat_natCast, show ((0 : Int)).toNat = 0 from rfl, cnt_zero]; omega
theorem ones_none (l : List Bool) {k : Int} (h0 : 0 ≤ k) (h1 : k ≤ l.length) : onesAt l k k = 0 := by
  rw [onesAt_in l h0 (by omega) h1]; omega
theorem tmod_range (a : Int) (n : Nat) : -(n : Int) ≤ a.tmod ((n : Int) + 1) ∧ a.tmod ((n : Int) + 1) ≤ n := by
  have h1 := Int.tmod_lt_of_pos a (show (0 : Int) < (n : Int) + 1 by omega)
  have h2 := Int.lt_tmod_of_pos a (show (0 : Int) < (n : Int) + 1 by omega)
  omega

end Go.Proofs.Ytebegdnebjjnmaa.AM
