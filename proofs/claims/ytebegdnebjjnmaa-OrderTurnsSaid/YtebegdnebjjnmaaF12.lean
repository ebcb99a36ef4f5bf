
/- The document's answers for rows of bits: get, ones, number. No condition but lengths that fit. -/
import Derived.Test.YtebegdnebjjnmaaF8
import Derived.Test.YtebegdnebjjnmaaF10
set_option linter.unusedVariables false
set_option linter.unusedSimpArgs false
set_option maxRecDepth 20000
namespace Go.Proofs.Ytebegdnebjjnmaa.AM
open Go Go.RowKit

theorem oneAt_get (l : List Bool) {i : Int} (h0 : 0 ≤ i) (h1 : i < l.length) : (oneAt l i == 1) = l.getD i.toNat false := by
  rw [oneAt_eq, decide_eq_true h0, Bool.true_and]
/-- One place more. -/
theorem onesAt_step (l : List Bool) (a b : Int) (j : Nat) (h : j < l.length) : onesAt l a (min b ((j : Int) + 1)) = onesAt l a (min b j) + (if a ≤ j ∧ (j : Int) < b then oneAt l j else 0) := by
  have hs := cnt_succ l j h
  unfold onesAt
  split
  · rename_i hc
    rw [show (min (max (min b ((j : Int) + 1)) (min (max a 0) (l.length : Int))) (l.length : Int)).toNat = j + 1 from by omega, show (min (max (min b (j : Int)) (min (max a 0) (l.length : Int))) (l.length : Int)).toNat = j from by omega]
    omega
  · rename_i hc
    rw [show (min (max (min b ((j : Int) + 1)) (min (max a 0) (l.length : Int))) (l.length : Int)).toNat = (min (max (min b (j : Int)) (min (max a 0) (l.length : Int))) (l.length : Int)).toNat from by omega]
    omega
theorem onesAt_zero (l : List Bool) (a b : Int) : onesAt l a (min b 0) = 0 := by
  unfold onesAt
  rw [show (min (max (min b 0) (min (max a 0) (l.length : Int))) (l.length : Int)) = min (max a 0) (l.length : Int) from by omega]; omega
theorem onesAt_done (l : List Bool) (a b : Int) : onesAt l a (min b l.length) = onesAt l a b := by
  unfold onesAt
  rw [show (min (max (min b (l.length : Int)) (min (max a 0) (l.length : Int))) (l.length : Int)) = min (max b (min (max a 0) (l.length : Int))) (l.length : Int) from by omega]

theorem wrapU_nat (n : Nat) : IntKind.u64.wrap (n : Int) = ((n % 18446744073709551616 : Nat) : Int) := by
  show (if (false && decide ((n : Int) % (2 ^ 64 : Int) ≥ (2 ^ (64 - 1) : Int))) = true then (n : Int) % (2 ^ 64 : Int) - (2 ^ 64 : Int) else (n : Int) % (2 ^ 64 : Int)) = _
  simp only [Bool.false_and, Bool.false_eq_true, if_false]
  omega
theorem w_step (i : Nat) : IntKind.u64.wrap (((2 ^ i % 18446744073709551616 : Nat) : Int) * 2) = ((2 ^ (i + 1) % 18446744073709551616 : Nat) : Int) := by
  rw [show ((2 ^ i % 18446744073709551616 : Nat) : Int) * 2 = ((2 ^ i % 18446744073709551616 * 2 : Nat) : Int) from by omega, wrapU_nat, Nat.pow_succ, Nat.mod_mul_mod]
theorem numN_one (l : List Bool) (i : Nat) (h : i < l.length) : numN l i 1 = (l.getD i false).toNat := by
  unfold numN
  have e : (l.drop i).take 1 = [l.getD i false] := by
    rw [List.drop_eq_getElem_cons h, List.take_succ_cons, List.take_zero]
    simp [List.getD, List.getElem?_eq_getElem h]
  rw [e]; simp [natOf]
theorem n_bit (l : List Bool) (a i : Nat) (h : a + i < l.length) : numN l a (i + 1) = numN l a i + 2 ^ i * (l.getD (a + i) false).toNat := by
  rw [numN_add l a i 1 (by omega), numN_one l (a + i) h]
theorem n_step (l : List Bool) (a i : Nat) (hi : i < 64) (h : a + i < l.length) (hb : l.getD (a + i) false = true) : IntKind.u64.wrap ((numN l a i : Int) + ((2 ^ i % 18446744073709551616 : Nat) : Int)) = (numN l a (i + 1) : Int) := by
  have h1 := n_bit l a i h
  rw [hb] at h1
  have h2 := numN_lt l a (i + 1)
  have h3 : (2 : Nat) ^ (i + 1) ≤ 2 ^ 64 := Nat.pow_le_pow_right (by decide) (by omega)
  have h4 := two_pow_lt64 hi
  rw [Nat.mod_eq_of_lt h4, ← Int.natCast_add, wrap64N _ (by simp at h1; omega), h1]; simp
end Go.Proofs.Ytebegdnebjjnmaa.AM
