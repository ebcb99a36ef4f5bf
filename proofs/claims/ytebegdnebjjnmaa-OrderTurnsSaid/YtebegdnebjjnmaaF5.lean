
/- Rows of bits: a number of some of them; rows read from bytes. No condition but lengths that fit. -/
import Derived.Test.YtebegdnebjjnmaaF4
set_option linter.unusedVariables false
set_option linter.unusedSimpArgs false
set_option maxRecDepth 20000
namespace Go.Proofs.Ytebegdnebjjnmaa.AM
open Go Go.RowKit

/-- What Number tells: its error, its number. -/
def numE (l : List Bool) (a w : Int) : Int := if w < 0 ∨ 64 < w then 1 else if a < 0 ∨ (l.length : Int) < a ∨ (l.length : Int) - a < w then 13 else 0
def numV (l : List Bool) (a w : Int) : Nat := if numE l a w = 0 then numN l a.toNat w.toNat else 0

theorem part_full (l : List Bool) (i : Nat) : ((wordAt l (i / 64) : Nat) : Int).fdiv (2 ^ min (i % 64) 64) = (numN l i (64 - i % 64) : Int) := by
  have := shrN (wordAt l (i / 64)) (r := ((i % 64 : Nat) : Int)) (by omega) (by omega)
  rw [Int.toNat_natCast] at this
  rw [this, word_shr]
theorem part_mask (l : List Bool) (i m : Nat) (hm : m < 64) (h : m ≤ 64 - i % 64) : bitI .and .u64 (numN l i (64 - i % 64) : Int) (IntKind.u64.wrap (IntKind.u64.wrap (1 * 2 ^ min m 64) - 1)) = (numN l i m : Int) := by
  have h1 : numN l i (64 - i % 64) < 18446744073709551616 := Nat.lt_of_lt_of_le (numN_lt _ _ _) (Nat.pow_le_pow_right (n := 2) (by decide) (show 64 - i % 64 ≤ 64 by omega))
  have := mask_word (numN l i (64 - i % 64)) h1 (r := (m : Int)) (by omega) (by omega)
  rw [Int.toNat_natCast] at this
  rw [this, numN_mod l i h]
theorem part_or (l : List Bool) (a g m : Nat) (h : a + g ≤ l.length) (hg : g + m ≤ 64) (hg2 : g < 64) : bitI .or .u64 (numN l a g : Int) (IntKind.u64.wrap ((numN l (a + g) m : Int) * 2 ^ min g 64)) = (numN l a (g + m) : Int) := by
  have h0 := numN_lt l a (g + m)
  have h1 := numN_lt l (a + g) m
  have h2 := numN_lt l a g
  have h64 : (2 : Nat) ^ (g + m) ≤ 18446744073709551616 := Nat.pow_le_pow_right (n := 2) (by decide) hg
  have hadd := numN_add l a g m h
  have h3 : numN l (a + g) m * 2 ^ g < 18446744073709551616 := by rw [Nat.mul_comm]; omega
  have := shlN (numN l (a + g) m) (r := (g : Int)) (by omega) (by omega) (by rw [Int.toNat_natCast]; exact h3)
  rw [Int.toNat_natCast] at this
  rw [this, bitor64 _ _ (by omega) h3, Nat.mul_comm, or_top _ h2, hadd]

def readOk (n : Int) (s : ByteArray) : Bool := decide (0 ≤ n ∧ n ≤ 8 * s.size) && ((bytesS (readB s n.toNat)).toList == s.toList)
def readV (n : Int) (s : ByteArray) : List Bool := if readOk n s = true then readB s n.toNat else []
def readE (n : Int) (s : ByteArray) : Int := if readOk n s = true then 0 else 10
theorem sq_bad : Sq (.tup [.agg [.int .i64 0, .sl 0 []], .int .i64 10]) (.tup [bitsV [], .int .i64 10]) := Sq.tup ⟨Sq.agg ⟨Sq.refl _, Sq.nil 0 1, trivial⟩, Sq.refl _, trivial⟩
end Go.Proofs.Ytebegdnebjjnmaa.AM
