
/- Plain facts: the lowest bits, lists, rests. No condition. -/
import Derived.Test.YtebegdnebjjnmaaM4
set_option linter.unusedVariables false
set_option linter.unusedSimpArgs false
namespace Go.Proofs.Ytebegdnebjjnmaa.AM
open Go Go.RowKit

/-- The lowest bits of a number of the machine. -/
theorem and_maskS (n : Int) (m : Nat) (k : Nat) (hk : k ≤ 62) (hm : m = 2 ^ k) : bitI .and .i64 n ((m : Int) - 1) = n % (m : Int) := by
  subst hm
  have hp : (2 : Nat) ^ k ≤ 2 ^ 62 := Nat.pow_le_pow_right (by decide) hk
  have h0 := Nat.two_pow_pos k
  have hr := Int.emod_nonneg n (show ((2 ^ k : Nat) : Int) ≠ 0 by omega)
  have hr2 := Int.emod_lt_of_pos n (show 0 < ((2 ^ k : Nat) : Int) by omega)
  have e2 : ((((2 ^ k : Nat) : Int) - 1) % ((2 ^ 64 : Nat) : Int)).toNat = 2 ^ k - 1 := by
    rw [Int.emod_eq_of_lt (by omega) (by omega)]; omega
  have e3 : (n % ((2 ^ 64 : Nat) : Int)).toNat % 2 ^ k = (n % ((2 ^ k : Nat) : Int)).toNat := by
    have hd : ((2 ^ k : Nat) : Int) ∣ ((2 ^ 64 : Nat) : Int) := Int.natCast_dvd_natCast.2 (Nat.pow_dvd_pow 2 (by omega))
    have h3 := Int.emod_nonneg n (show ((2 ^ 64 : Nat) : Int) ≠ 0 by omega)
    have h4 := Int.emod_emod_of_dvd n hd
    rw [← h4]
    generalize n % ((2 ^ 64 : Nat) : Int) = z at *
    obtain ⟨y, rfl⟩ : ∃ y : Nat, z = (y : Int) := ⟨z.toNat, by omega⟩
    rw [Int.toNat_natCast, ← Int.natCast_emod, Int.toNat_natCast]
  have e : (BitVec.ofInt IntKind.i64.bits n &&& BitVec.ofInt IntKind.i64.bits (((2 ^ k : Nat) : Int) - 1)).toNat = (n % ((2 ^ k : Nat) : Int)).toNat := by
    rw [BitVec.toNat_and, BitVec.toNat_ofInt, BitVec.toNat_ofInt]
    show ((n % ((2 ^ 64 : Nat) : Int)).toNat &&& ((((2 ^ k : Nat) : Int) - 1) % ((2 ^ 64 : Nat) : Int)).toNat) = _
    rw [e2, Nat.and_two_pow_sub_one_eq_mod, e3]
  show IntKind.i64.wrap _ = _
  rw [e]
  generalize n % ((2 ^ k : Nat) : Int) = z at *
  rw [show ((z.toNat : Nat) : Int) = z from by omega]
  exact wrapS ⟨by omega, by omega⟩

theorem take_snoc (l : List Int) {j : Nat} (h : j < l.length) : l.take (j + 1) = l.take j ++ [l.getD j 0] := by
  rw [List.take_add_one, List.getElem?_eq_getElem h]
  simp [List.getD, List.getElem?_eq_getElem h]
/-- A number's rest, made one from 0 on. -/
def cutS (s z : Int) : Int := (z.tmod s + s).tmod s
theorem cutS_range {s : Int} (hs : 0 < s) (z : Int) : 0 ≤ cutS s z ∧ cutS s z < s := by
  unfold cutS
  have h1 := Int.lt_tmod_of_pos z hs
  have h2 := Int.tmod_lt_of_pos z hs
  rw [Int.tmod_eq_emod_of_nonneg (by omega)]
  exact ⟨Int.emod_nonneg _ (by omega), Int.emod_lt_of_pos _ hs⟩
theorem cutS_wrap {s : Int} (hs : 0 < s) (h2 : s ≤ 1000000000) (z : Int) : (IntKind.i64.wrap (z.tmod s + s)).tmod s = cutS s z := by
  have h1 := Int.lt_tmod_of_pos z hs
  have h3 := Int.tmod_lt_of_pos z hs
  rw [wrapS ⟨by omega, by omega⟩]; rfl
theorem getD_map_at {f : Int → Int} {l : List Int} {i : Nat} (h : i < l.length) : (l.map f).getD i 0 = f (l.getD i 0) := by
  simp [List.getD, List.getElem?_eq_getElem h]
theorem any_take_succ (p : Int → Bool) (l : List Int) {i : Nat} (h : i < l.length) : (l.take (i + 1)).any p = ((l.take i).any p || p (l.getD i 0)) := by
  rw [take_snoc l h, List.any_append]; simp
end Go.Proofs.Ytebegdnebjjnmaa.AM
