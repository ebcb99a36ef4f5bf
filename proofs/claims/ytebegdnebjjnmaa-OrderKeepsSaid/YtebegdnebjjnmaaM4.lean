
/- Numbers in rows of bits, and their bytes: plain facts. No condition. -/
import Derived.Test.YtebegdnebjjnmaaM3
import Derived.Lib.BitFns
set_option linter.unusedVariables false
set_option linter.unusedSimpArgs false
namespace Go.Proofs.Ytebegdnebjjnmaa.AM
open Go Go.RowKit

/-- The least bits of a number. -/
def bitsOf (n w : Nat) : List Bool := (List.range w).map fun i => n / 2 ^ i % 2 == 1
theorem bitsOf_len (n w : Nat) : (bitsOf n w).length = w := by simp [bitsOf]
theorem bitsOf_succ (n w : Nat) : bitsOf n (w + 1) = bitsOf n w ++ [n / 2 ^ w % 2 == 1] := by simp [bitsOf, List.range_succ]
theorem natOf_bitsOf (n : Nat) : ∀ w, natOf (bitsOf n w) = n % 2 ^ w
  | 0 => by simp [bitsOf, natOf, Nat.mod_one]
  | w + 1 => by
    rw [bitsOf_succ, natOf_append, bitsOf_len, natOf_bitsOf n w, Nat.mod_pow_succ]
    have h : n / 2 ^ w % 2 < 2 := Nat.mod_lt _ (by decide)
    have : natOf [n / 2 ^ w % 2 == 1] = n / 2 ^ w % 2 := by
      generalize n / 2 ^ w % 2 = t at h
      match t, h with
      | 0, _ => rfl
      | 1, _ => rfl
    rw [this]
theorem bit_of (n : Nat) (hn : n < 18446744073709551616) {i : Int} (h0 : 0 ≤ i) (h1 : i < 64) : decide (bitI .and .u64 ((n : Int).fdiv (2 ^ min i.toNat 64)) 1 = 1) = (n / 2 ^ i.toNat % 2 == 1) := by
  rw [shrN n h0 h1, and1 _ (Nat.lt_of_le_of_lt (Nat.div_le_self _ _) hn)]
  have h : n / 2 ^ i.toNat % 2 < 2 := Nat.mod_lt _ (by decide)
  generalize n / 2 ^ i.toNat % 2 = t at h
  match t, h with
  | 0, _ => rfl
  | 1, _ => rfl

theorem bitLenAux_lt : ∀ (f x : Nat), x < 2 ^ f → x < 2 ^ Lib.bitLenAux f x
  | 0, x, h => by simpa [Lib.bitLenAux] using h
  | f + 1, x, h => by
    unfold Lib.bitLenAux
    split
    · rename_i h0; subst h0; simp
    · have := bitLenAux_lt f (x / 2) (by rw [Nat.pow_succ] at h; omega)
      rw [Nat.add_comm, Nat.pow_succ]; omega
theorem bitLen_fits (x : Nat) (hx : x < 18446744073709551616) {w : Nat} (hw : w ≤ 64) : Lib.bitLen x ≤ w ↔ x < 2 ^ w := by
  constructor
  · intro h
    exact Nat.lt_of_lt_of_le (bitLenAux_lt 64 x hx) (Nat.pow_le_pow_right (by decide) h)
  · exact Lib.bitLen_le x w hw
theorem bitLen_64 (x : Nat) (hx : x < 18446744073709551616) : Lib.bitLen x ≤ 64 := Lib.bitLen_le x 64 (by decide) hx

/-! ### a number in a row -/
def numN (l : List Bool) (a w : Nat) : Nat := natOf ((l.drop a).take w)
theorem numN_lt (l : List Bool) (a w : Nat) : numN l a w < 2 ^ w :=
  Nat.lt_of_lt_of_le (natOf_lt _) (Nat.pow_le_pow_right (by decide) (by rw [List.length_take]; omega))
theorem numN_zero (l : List Bool) (a : Nat) : numN l a 0 = 0 := by simp [numN, natOf]
theorem numN_add (l : List Bool) (a g m : Nat) (h : a + g ≤ l.length) : numN l a (g + m) = numN l a g + 2 ^ g * numN l (a + g) m := by
  unfold numN
  rw [List.take_add, natOf_append, List.length_take, List.length_drop, Nat.min_eq_left (by omega), List.drop_drop]
theorem word_shr (l : List Bool) (i : Nat) : wordAt l (i / 64) / 2 ^ (i % 64) = numN l i (64 - i % 64) := by
  unfold wordAt numN
  rw [natOf_div, List.drop_take, List.drop_drop, show 64 * (i / 64) + i % 64 = i from by omega]
theorem numN_mod (l : List Bool) (i : Nat) {m k : Nat} (h : m ≤ k) : numN l i k % 2 ^ m = numN l i m := by
  unfold numN
  rw [natOf_mod, List.take_take, Nat.min_eq_left h]

/-! ### bytes -/
def byteAt (l : List Bool) (k : Nat) : Nat := natOf ((l.drop (8 * k)).take 8)
theorem byteAt_lt (l : List Bool) (k : Nat) : byteAt l k < 256 :=
  numN_lt l (8 * k) 8
theorem byte_word (l : List Bool) (k : Nat) : wordAt l (8 * k / 64) / 2 ^ (8 * k % 64) % 256 = byteAt l k := by
  rw [word_shr, show (256 : Nat) = 2 ^ 8 from rfl, numN_mod l _ (by omega)]; rfl
def bytesI (l : List Bool) : List IV := (List.range ((l.length + 7) / 8)).map fun k => .int .u8 (byteAt l k)
def bytesS (l : List Bool) : ByteArray := ⟨((List.range ((l.length + 7) / 8)).map fun k => UInt8.ofNat (byteAt l k)).toArray⟩
theorem bytesI_len (l : List Bool) : (bytesI l).length = (l.length + 7) / 8 := by simp [bytesI]
theorem bytesOf?_map {α : Type} (f : α → Nat) : ∀ L : List α, bytesOf? (L.map fun a => IV.int .u8 (f a)) = some (L.map fun a => UInt8.ofNat (f a))
  | [] => rfl
  | a :: L => by
    simp only [List.map_cons, bytesOf?, bytesOf?_map f L, Option.map_some, Int.toNat_natCast]
theorem bytesOf?_bytesI (l : List Bool) : bytesOf? (bytesI l) = some ((List.range ((l.length + 7) / 8)).map fun k => UInt8.ofNat (byteAt l k)) := bytesOf?_map (byteAt l) _
theorem take_set {α : Type} (L : List α) (x z : α) {n j : Nat} (hj : j < n) (hn : n = L.length) (hx : L[j]? = some x) : (L.take j ++ List.replicate (n - j) z).set j x = L.take (j + 1) ++ List.replicate (n - (j + 1)) z := by
  rw [List.set_append_right _ _ (by rw [List.length_take]; omega), List.length_take, Nat.min_eq_left (by omega), Nat.sub_self]
  rw [show n - j = (n - (j + 1)) + 1 from by omega, List.replicate_succ, List.set_cons_zero, List.take_add_one, hx]
  simp
theorem bitand8 (a b : Nat) (ha : a < 256) (hb : b < 256) : bitI .and .u8 (a : Int) (b : Int) = ((a &&& b : Nat) : Int) := by
  have e : (BitVec.ofInt IntKind.u8.bits (a : Int) &&& BitVec.ofInt IntKind.u8.bits (b : Int)).toNat = a &&& b := by
    rw [BitVec.toNat_and, BitVec.ofInt_natCast, BitVec.ofInt_natCast, BitVec.toNat_ofNat, BitVec.toNat_ofNat]
    rw [Nat.mod_eq_of_lt (show a < 2 ^ IntKind.u8.bits from ha), Nat.mod_eq_of_lt (show b < 2 ^ IntKind.u8.bits from hb)]
  show IntKind.u8.wrap _ = _
  rw [e]
  have := Nat.and_le_left (n := a) (m := b)
  exact wrapB ⟨by omega, by omega⟩
theorem shrN8 (a : Nat) {r : Int} (h0 : 0 ≤ r) (h1 : r < 8) : (a : Int).fdiv (2 ^ (min r.toNat 8)) = ((a / 2 ^ r.toNat : Nat) : Int) := by
  rw [Nat.min_eq_left (by omega), Int.fdiv_eq_ediv_of_nonneg _ (by have := Int.natCast_nonneg (2 ^ r.toNat); simpa using this)]
  simp
theorem bit8 (n : Nat) (hn : n < 256) {i : Int} (h0 : 0 ≤ i) (h1 : i < 8) : decide (bitI .and .u8 ((n : Int).fdiv (2 ^ min i.toNat 8)) 1 = 1) = (n / 2 ^ i.toNat % 2 == 1) := by
  have h := Nat.div_le_self n (2 ^ i.toNat)
  rw [shrN8 n h0 h1]
  have e := bitand8 (n / 2 ^ i.toNat) 1 (by omega) (by decide)
  rw [and_one] at e
  rw [show ((1 : Nat) : Int) = 1 from rfl] at e
  rw [e]
  have h : n / 2 ^ i.toNat % 2 < 2 := Nat.mod_lt _ (by decide)
  generalize n / 2 ^ i.toNat % 2 = t at h
  match t, h with
  | 0, _ => rfl
  | 1, _ => rfl
/-- The bits of bytes. -/
def readB (s : ByteArray) (n : Nat) : List Bool := (List.range n).map fun i => (s.data.toList.getD (i / 8) 0).toNat / 2 ^ (i % 8) % 2 == 1
theorem readB_len (s : ByteArray) (n : Nat) : (readB s n).length = n := by simp [readB]
theorem readB_succ (s : ByteArray) (n : Nat) : readB s (n + 1) = readB s n ++ [(s.data.toList.getD (n / 8) 0).toNat / 2 ^ (n % 8) % 2 == 1] := by simp [readB, List.range_succ]

theorem wrapB_nat (n : Nat) : IntKind.u8.wrap (n : Int) = ((n % 256 : Nat) : Int) := by
  show (if (false && decide ((n : Int) % (2 ^ 8 : Int) ≥ (2 ^ (8 - 1) : Int))) = true then (n : Int) % (2 ^ 8 : Int) - (2 ^ 8 : Int) else (n : Int) % (2 ^ 8 : Int)) = _
  simp only [Bool.false_and, Bool.false_eq_true, if_false]
  omega
theorem byte_int (l : List Bool) (j : Nat) : IntKind.u8.wrap ((wordAt l ((j : Int) * 8 / 64).toNat : Int).fdiv (2 ^ min ((j : Int) * 8 % 64).toNat 64)) = (byteAt l j : Int) := by
  rw [shrN _ (by omega) (by omega), wrapB_nat, show ((j : Int) * 8 / 64).toNat = 8 * j / 64 from by omega, show ((j : Int) * 8 % 64).toNat = 8 * j % 64 from by omega, byte_word]
theorem bytesI_get (l : List Bool) {j : Nat} (h : j < (l.length + 7) / 8) : (bytesI l)[j]? = some (.int .u8 (byteAt l j)) := by
  rw [bytesI, List.getElem?_map, List.getElem?_range h]; rfl

end Go.Proofs.Ytebegdnebjjnmaa.AM
