
/- Rows of bits as words: plain facts. No condition. -/
import Derived.Test.YtebegdnebjjnmaaA16
set_option linter.unusedVariables false
set_option linter.unusedSimpArgs false
namespace Go.Proofs.Ytebegdnebjjnmaa.AM
open Go Go.RowKit

/-- Bits as a number, the least one first. -/
def natOf : List Bool → Nat
  | [] => 0
  | b :: l => b.toNat + 2 * natOf l
theorem boolNat_lt (b : Bool) : b.toNat < 2 := by cases b <;> decide
theorem natOf_lt : ∀ l, natOf l < 2 ^ l.length
  | [] => by simp [natOf]
  | b :: l => by
    have h1 := natOf_lt l
    have h2 := boolNat_lt b
    simp only [natOf, List.length_cons, Nat.pow_succ]
    omega
theorem natOf_append (a b : List Bool) : natOf (a ++ b) = natOf a + 2 ^ a.length * natOf b := by
  induction a with
  | nil => simp [natOf]
  | cons x a ih =>
    simp only [List.cons_append, natOf, ih, List.length_cons, Nat.pow_succ]
    rw [Nat.mul_comm (2 ^ a.length) 2, Nat.mul_assoc]
    omega
theorem natOf_take_drop (l : List Bool) {i : Nat} (h : i ≤ l.length) : natOf l = natOf (l.take i) + 2 ^ i * natOf (l.drop i) := by
  have := natOf_append (l.take i) (l.drop i)
  rw [List.take_append_drop, List.length_take, Nat.min_eq_left h] at this
  exact this
theorem natOf_mod (l : List Bool) (i : Nat) : natOf l % 2 ^ i = natOf (l.take i) := by
  by_cases h : i ≤ l.length
  · have h1 := natOf_lt (l.take i)
    rw [List.length_take, Nat.min_eq_left h] at h1
    rw [natOf_take_drop l h, Nat.add_mul_mod_self_left, Nat.mod_eq_of_lt h1]
  · rw [List.take_of_length_le (by omega)]
    exact Nat.mod_eq_of_lt (Nat.lt_of_lt_of_le (natOf_lt l) (Nat.pow_le_pow_right (by decide) (by omega)))
theorem natOf_div (l : List Bool) (i : Nat) : natOf l / 2 ^ i = natOf (l.drop i) := by
  by_cases h : i ≤ l.length
  · have h1 := natOf_lt (l.take i)
    rw [List.length_take, Nat.min_eq_left h] at h1
    rw [natOf_take_drop l h, Nat.add_mul_div_left _ _ (Nat.two_pow_pos i), Nat.div_eq_of_lt h1, Nat.zero_add]
  · rw [List.drop_of_length_le (by omega)]
    exact Nat.div_eq_of_lt (Nat.lt_of_lt_of_le (natOf_lt l) (Nat.pow_le_pow_right (by decide) (by omega)))
theorem natOf_two (l : List Bool) : natOf l % 2 = (l.getD 0 false).toNat := by
  cases l with
  | nil => rfl
  | cons b l =>
    have h2 := boolNat_lt b
    simp only [natOf, List.getD_cons_zero]; omega
theorem natOf_bit (l : List Bool) (i : Nat) : natOf l / 2 ^ i % 2 = (l.getD i false).toNat := by
  rw [natOf_div, natOf_two]
  simp [List.getD_eq_getElem?_getD, List.getElem?_drop]
theorem natOf_inj : ∀ {a b : List Bool}, a.length = b.length → natOf a = natOf b → a = b
  | [], [], _, _ => rfl
  | x :: a, y :: b, hl, h => by
    have h1 := boolNat_lt x
    have h2 := boolNat_lt y
    simp only [natOf] at h
    have e1 : x.toNat = y.toNat := by omega
    have e2 : natOf a = natOf b := by omega
    rw [natOf_inj (by simpa using hl) e2]
    cases x <;> cases y <;> simp_all

/-! ### words -/
def wordAt (l : List Bool) (k : Nat) : Nat := natOf ((l.drop (64 * k)).take 64)
theorem wordAt_lt (l : List Bool) (k : Nat) : wordAt l k < 18446744073709551616 := by
  refine Nat.lt_of_lt_of_le (natOf_lt _) ?_
  rw [show (18446744073709551616 : Nat) = 2 ^ 64 from by decide]
  exact Nat.pow_le_pow_right (by decide) (by simp; omega)
def nw (l : List Bool) : Nat := (l.length + 63) / 64
def ws (l : List Bool) : List IV := (List.range (nw l)).map fun k => .int .u64 (wordAt l k)
theorem ws_len (l : List Bool) : (ws l).length = (l.length + 63) / 64 := by simp [ws, nw]
theorem ws_get (l : List Bool) {k : Nat} (h : k < (l.length + 63) / 64) : (ws l)[k]? = some (.int .u64 (wordAt l k)) := by
  rw [ws, List.getElem?_map, List.getElem?_range (by simpa [nw] using h)]; rfl
theorem ws_none (l : List Bool) {k : Nat} (h : (l.length + 63) / 64 ≤ k) : (ws l)[k]? = none := List.getElem?_eq_none (by rw [ws_len]; exact h)
theorem wordAt_bit (l : List Bool) {k r : Nat} (h : r < 64) : wordAt l k / 2 ^ r % 2 = (l.getD (64 * k + r) false).toNat := by
  rw [wordAt, natOf_bit]
  simp only [List.getD_eq_getElem?_getD, List.getElem?_take, if_pos h, List.getElem?_drop]
theorem wordAt_snoc (l : List Bool) (b : Bool) {k : Nat} (h : 64 * k ≤ l.length) : wordAt (l ++ [b]) k = if l.length < 64 * (k + 1) then wordAt l k + 2 ^ (l.length - 64 * k) * b.toNat else wordAt l k := by
  unfold wordAt
  rw [List.drop_append_of_le_length h]
  split
  · rename_i h1
    rw [List.take_of_length_le (l := l.drop (64 * k) ++ [b]) (by simp; omega), List.take_of_length_le (l := l.drop (64 * k)) (by simp; omega), natOf_append]
    simp [natOf]
  · rename_i h1
    rw [List.take_append_of_le_length (by simp; omega)]
theorem ws_snoc_old (l : List Bool) (b : Bool) (h : ¬ l.length % 64 = 0) : ws (l ++ [b]) = (ws l).set (l.length / 64) (.int .u64 ((wordAt l (l.length / 64) + 2 ^ (l.length % 64) * b.toNat : Nat))) := by
  apply List.ext_getElem?
  intro k
  by_cases hk : k < (l.length + 63) / 64
  · rw [ws_get _ (by simp; omega), List.getElem?_set]
    rw [wordAt_snoc _ _ (by omega)]
    by_cases e : l.length / 64 = k
    · rw [if_pos e, if_pos (show l.length < 64 * (k + 1) by omega), if_pos (by rw [ws_len]; omega), ← e, show l.length - 64 * (l.length / 64) = l.length % 64 from by omega]
    · rw [if_neg e, if_neg (by omega), ws_get _ hk]
  · rw [ws_none _ (by simp; omega), List.getElem?_eq_none (by simp [ws_len]; omega)]
theorem ws_snoc_new (l : List Bool) (b : Bool) (h : l.length % 64 = 0) : ws (l ++ [b]) = ws l ++ [.int .u64 (b.toNat : Int)] := by
  apply List.ext_getElem?
  intro k
  by_cases hk : k < (l.length + 63) / 64
  · rw [ws_get _ (by simp; omega), List.getElem?_append_left (by rw [ws_len]; omega), ws_get _ hk, wordAt_snoc _ _ (by omega), if_neg (by omega)]
  · by_cases e : k = l.length / 64
    · rw [ws_get _ (by simp; omega), List.getElem?_append_right (by rw [ws_len]; omega), ws_len, show k - (l.length + 63) / 64 = 0 from by omega, wordAt_snoc _ _ (by omega), if_pos (by omega)]
      have h0 : wordAt l k = 0 := by
        unfold wordAt
        rw [List.drop_of_length_le (by omega)]; rfl
      have h1 : l.length - 64 * k = 0 := by omega
      rw [h0, h1]; simp
    · rw [ws_none _ (by simp; omega), List.getElem?_eq_none (by simp [ws_len]; omega)]
theorem ws_nil : ws [] = [] := rfl

/-! ### what the machine's operations are on such numbers -/
theorem wrap64N (n : Nat) (h : n < 18446744073709551616) : IntKind.u64.wrap (n : Int) = (n : Int) := wrapU ⟨by omega, by omega⟩
theorem bitand64 (a b : Nat) (ha : a < 18446744073709551616) (hb : b < 18446744073709551616) : bitI .and .u64 (a : Int) (b : Int) = ((a &&& b : Nat) : Int) := by
  have e : (BitVec.ofInt IntKind.u64.bits (a : Int) &&& BitVec.ofInt IntKind.u64.bits (b : Int)).toNat = a &&& b := by
    rw [BitVec.toNat_and, BitVec.ofInt_natCast, BitVec.ofInt_natCast, BitVec.toNat_ofNat, BitVec.toNat_ofNat]
    rw [Nat.mod_eq_of_lt (show a < 2 ^ IntKind.u64.bits from ha), Nat.mod_eq_of_lt (show b < 2 ^ IntKind.u64.bits from hb)]
  show IntKind.u64.wrap _ = _
  rw [e]
  exact wrap64N _ (Nat.lt_of_le_of_lt Nat.and_le_left ha)
theorem bitor64 (a b : Nat) (ha : a < 18446744073709551616) (hb : b < 18446744073709551616) : bitI .or .u64 (a : Int) (b : Int) = ((a ||| b : Nat) : Int) := by
  have e : (BitVec.ofInt IntKind.u64.bits (a : Int) ||| BitVec.ofInt IntKind.u64.bits (b : Int)).toNat = a ||| b := by
    rw [BitVec.toNat_or, BitVec.ofInt_natCast, BitVec.ofInt_natCast, BitVec.toNat_ofNat, BitVec.toNat_ofNat]
    rw [Nat.mod_eq_of_lt (show a < 2 ^ IntKind.u64.bits from ha), Nat.mod_eq_of_lt (show b < 2 ^ IntKind.u64.bits from hb)]
  show IntKind.u64.wrap _ = _
  rw [e]
  exact wrap64N _ (Nat.or_lt_two_pow (n := 64) ha hb)
/-- A shift to the right. -/
theorem shrN (a : Nat) {r : Int} (h0 : 0 ≤ r) (h1 : r < 64) : (a : Int).fdiv (2 ^ (min r.toNat 64)) = ((a / 2 ^ r.toNat : Nat) : Int) := by
  rw [Nat.min_eq_left (by omega), Int.fdiv_eq_ediv_of_nonneg _ (by have := Int.natCast_nonneg (2 ^ r.toNat); simpa using this)]
  simp
theorem shlN {r : Int} (a : Nat) (h0 : 0 ≤ r) (h1 : r < 64) (h : a * 2 ^ r.toNat < 18446744073709551616) : IntKind.u64.wrap ((a : Int) * 2 ^ (min r.toNat 64)) = ((a * 2 ^ r.toNat : Nat) : Int) := by
  rw [Nat.min_eq_left (by omega)]
  have : ((a : Int) * 2 ^ r.toNat) = ((a * 2 ^ r.toNat : Nat) : Int) := by simp
  rw [this, wrap64N _ h]
theorem and_one (a : Nat) : a &&& 1 = a % 2 := Nat.and_one_is_mod a
theorem and_mask (a r : Nat) : a &&& (2 ^ r - 1) = a % 2 ^ r := Nat.and_two_pow_sub_one_eq_mod a r
theorem or_top {a r : Nat} (b : Nat) (h : a < 2 ^ r) : a ||| 2 ^ r * b = a + 2 ^ r * b := by
  rw [Nat.or_comm, ← Nat.two_pow_add_eq_or_of_lt h b, Nat.add_comm]
theorem two_pow_lt64 {r : Nat} (h : r < 64) : 2 ^ r < 18446744073709551616 := Nat.pow_lt_pow_right (a := 2) (by decide) h
theorem wordAt_part (l : List Bool) (k : Nat) (h : 64 * k ≤ l.length) (h2 : l.length < 64 * (k + 1)) : wordAt l k < 2 ^ (l.length - 64 * k) := by
  have := natOf_lt ((l.drop (64 * k)).take 64)
  rwa [List.length_take, List.length_drop, Nat.min_eq_right (by omega)] at this

theorem shl1 {r : Int} (h0 : 0 ≤ r) (h1 : r < 64) : IntKind.u64.wrap (1 * 2 ^ (min r.toNat 64)) = ((2 ^ r.toNat : Nat) : Int) := by
  have := shlN (r := r) 1 h0 h1 (by rw [Nat.one_mul]; exact two_pow_lt64 (by omega))
  rw [Nat.one_mul] at this
  exact this
theorem or_word (l : List Bool) (h : ¬ l.length % 64 = 0) : bitI .or .u64 (wordAt l ((l.length : Int) / 64).toNat) (IntKind.u64.wrap (1 * 2 ^ (min ((l.length : Int) % 64).toNat 64))) = ((wordAt l (l.length / 64) + 2 ^ (l.length % 64) * true.toNat : Nat) : Int) := by
  rw [shl1 (by omega) (by omega), show ((l.length : Int) / 64).toNat = l.length / 64 from by omega, show ((l.length : Int) % 64).toNat = l.length % 64 from by omega]
  rw [bitor64 _ _ (wordAt_lt _ _) (two_pow_lt64 (by omega))]
  have h1 := wordAt_part l (l.length / 64) (by omega) (by omega)
  rw [show l.length - 64 * (l.length / 64) = l.length % 64 from by omega] at h1
  have := or_top 1 h1
  simp only [Nat.mul_one] at this
  rw [this]; simp
theorem ws_add_old0 (l : List Bool) (h : ¬ l.length % 64 = 0) : ws (l ++ [false]) = ws l := by
  rw [ws_snoc_old l false h]
  apply List.ext_getElem?
  intro k
  rw [List.getElem?_set]
  by_cases e : l.length / 64 = k
  · rw [if_pos e, if_pos (by rw [ws_len]; omega), ← e, ws_get l (by omega)]; simp
  · rw [if_neg e]
theorem ws_add_old1 (l : List Bool) (h : ¬ l.length % 64 = 0) : (ws l).set ((l.length : Int) / 64).toNat (.int .u64 (bitI .or .u64 (wordAt l ((l.length : Int) / 64).toNat) (IntKind.u64.wrap (1 * 2 ^ (min ((l.length : Int) % 64).toNat 64))))) = ws (l ++ [true]) := by
  rw [or_word l h, ws_snoc_old l true h, show ((l.length : Int) / 64).toNat = l.length / 64 from by omega]
theorem ws_add_new1 (l : List Bool) (h : l.length % 64 = 0) : (ws l ++ [IV.int .u64 0]).set ((l.length : Int) / 64).toNat (.int .u64 (bitI .or .u64 0 (IntKind.u64.wrap (1 * 2 ^ (min ((l.length : Int) % 64).toNat 64))))) = ws (l ++ [true]) := by
  rw [ws_snoc_new l true h, show ((l.length : Int) / 64).toNat = l.length / 64 from by omega, show ((l.length : Int) % 64).toNat = 0 from by omega]
  rw [List.set_append_right _ _ (by rw [ws_len]; omega), ws_len, show l.length / 64 - (l.length + 63) / 64 = 0 from by omega]
  rfl

end Go.Proofs.Ytebegdnebjjnmaa.AM
