
/- Words again: the sums of the library's count of ones, step by step; one bit of a row. No condition. -/
import Derived.Test.YtebegdnebjjnmaaM2
set_option linter.unusedVariables false
set_option linter.unusedSimpArgs false
namespace Go.Proofs.Ytebegdnebjjnmaa.AM
open Go Go.RowKit

theorem bmap_lt (f : Nat → Nat) (hf : ∀ d, d < 256 → f d < 256) : ∀ (k x : Nat), bmap f k x < 256 ^ k
  | 0, x => by simp [bmap]
  | k + 1, x => by
    have h1 := hf (x % 256) (by omega)
    have h2 := bmap_lt f hf k (x / 256)
    simp only [bmap, Nat.pow_succ]; omega
def o1 (x : Nat) : Nat := (x / 2 &&& 6148914691236517205) + (x &&& 6148914691236517205)
def o2 (x : Nat) : Nat := (o1 x / 4 &&& 3689348814741910323) + (o1 x &&& 3689348814741910323)
def o3 (x : Nat) : Nat := (o2 x / 16 + o2 x) &&& 1085102592571150095
def o4 (x : Nat) : Nat := o3 x + o3 x / 256
def o5 (x : Nat) : Nat := o4 x + o4 x / 65536
def o6 (x : Nat) : Nat := o5 x + o5 x / 4294967296
theorem o1_eq (x : Nat) : o1 x = bmap t1 8 x := by
  unfold o1
  have m1 : 6148914691236517205 = mk8 85 8 := by decide
  rw [m1, step1]
theorem o2_eq (x : Nat) : o2 x = bmap (fun d => t2 (t1 d)) 8 x := by
  unfold o2
  have m1 : 3689348814741910323 = mk8 51 8 := by decide
  rw [m1, step2, o1_eq, bmap_comp t1 t2 (fun d hd => t1_lt ⟨d, hd⟩)]
theorem o3_eq (x : Nat) : o3 x = bmap (pc 8) 8 x := swar_eq x
theorem o1_lt (x : Nat) : o1 x < 18446744073709551616 := by
  rw [o1_eq]; exact bmap_lt t1 (fun d hd => t1_lt ⟨d, hd⟩) 8 x
theorem o2_le (x : Nat) : ∀ k y, bmap (fun d => t2 (t1 d)) k y ≤ 68 * ((256 ^ k - 1) / 255)
  | 0, y => by simp [bmap]
  | k + 1, y => by
    have h1 := (t21_lt ⟨y % 256, by omega⟩).1
    have h2 := o2_le x k (y / 256)
    have h3 : 0 < 256 ^ k := Nat.pow_pos (by decide)
    simp only at h1
    simp only [bmap, Nat.pow_succ]
    have h4 : (256 ^ k * 256 - 1) / 255 = 256 * ((256 ^ k - 1) / 255) + 1 := by
      have : (256 ^ k - 1) % 255 = 0 := by
        have : ∀ k, 256 ^ k % 255 = 1 := by
          intro k
          induction k with
          | zero => rfl
          | succ k ih => rw [Nat.pow_succ]; omega
        have := this k; omega
      omega
    rw [h4]; omega
theorem o2_lt (x : Nat) : o2 x ≤ 4919131752989213764 := by
  have := o2_le x 8 x
  rw [o2_eq]; exact Nat.le_trans this (by decide)
theorem o3_lt (x : Nat) : o3 x < 18446744073709551616 := by
  rw [o3_eq]; exact bmap_lt (pc 8) (fun d hd => by have := (t321 ⟨d, hd⟩).2; simp only at this; omega) 8 x
theorem o456 (x : Nat) (hx : x < 18446744073709551616) : o4 x < 18446744073709551616 ∧ o5 x < 18446744073709551616 ∧ o6 x < 18446744073709551616 ∧ o6 x % 128 = pc 64 x :=
  ones_sum x (o3 x) (o4 x) (o5 x) (o6 x) hx (o3_eq x) rfl rfl rfl

theorem shrK (a k : Nat) (h : k < 64) : (a : Int).fdiv (2 ^ (min k 64)) = ((a / 2 ^ k : Nat) : Int) := by
  have := shrN a (r := (k : Int)) (by omega) (by omega)
  simpa using this
theorem addN (a b : Nat) (h : a + b < 18446744073709551616) : IntKind.u64.wrap ((a : Int) + (b : Int)) = ((a + b : Nat) : Int) := by
  rw [← Int.natCast_add]; exact wrap64N _ h
theorem and_le_r {a b m : Nat} (h : b < m) : a &&& b < m := Nat.lt_of_le_of_lt Nat.and_le_right h

theorem bitandL (a b : Nat) (c : Int) (hc : c = (b : Int)) (ha : a < 18446744073709551616) (hb : b < 18446744073709551616) : bitI .and .u64 (a : Int) c = ((a &&& b : Nat) : Int) := by
  rw [hc]; exact bitand64 a b ha hb
theorem w_o1 (x : Nat) (hx : x < 18446744073709551616) : IntKind.u64.wrap (bitI .and .u64 ((x : Int).fdiv (2 ^ min 1 64)) 6148914691236517205 + bitI .and .u64 (x : Int) 6148914691236517205) = (o1 x : Int) := by
  rw [shrK x 1 (by decide), bitandL (x / 2 ^ 1) 6148914691236517205 6148914691236517205 rfl (by simp only [Nat.pow_one]; omega) (by decide), bitandL x 6148914691236517205 6148914691236517205 rfl hx (by decide)]
  exact addN _ _ (o1_lt x)
theorem w_o2 (x : Nat) : IntKind.u64.wrap (bitI .and .u64 ((o1 x : Int).fdiv (2 ^ min 2 64)) 3689348814741910323 + bitI .and .u64 (o1 x : Int) 3689348814741910323) = (o2 x : Int) := by
  have h := o1_lt x
  rw [shrK (o1 x) 2 (by decide), bitandL (o1 x / 2 ^ 2) 3689348814741910323 3689348814741910323 rfl (by rw [show (2 : Nat) ^ 2 = 4 from rfl]; omega) (by decide), bitandL (o1 x) 3689348814741910323 3689348814741910323 rfl h (by decide)]
  exact addN _ _ (Nat.lt_of_le_of_lt (o2_lt x) (by decide))
theorem w_o3 (x : Nat) : bitI .and .u64 (IntKind.u64.wrap ((o2 x : Int).fdiv (2 ^ min 4 64) + (o2 x : Int))) 1085102592571150095 = (o3 x : Int) := by
  have h := o2_lt x
  rw [shrK (o2 x) 4 (by decide), show (2 : Nat) ^ 4 = 16 from rfl, addN _ _ (by omega)]
  exact bitand64 _ 1085102592571150095 (by omega) (by decide)
theorem w_o4 (x : Nat) (hx : x < 18446744073709551616) : IntKind.u64.wrap ((o3 x : Int) + (o3 x : Int).fdiv (2 ^ min 8 64)) = (o4 x : Int) := by
  rw [shrK (o3 x) 8 (by decide)]
  exact addN _ _ (o456 x hx).1
theorem w_o5 (x : Nat) (hx : x < 18446744073709551616) : IntKind.u64.wrap ((o4 x : Int) + (o4 x : Int).fdiv (2 ^ min 16 64)) = (o5 x : Int) := by
  rw [shrK (o4 x) 16 (by decide)]
  exact addN _ _ (o456 x hx).2.1
theorem w_o6 (x : Nat) (hx : x < 18446744073709551616) : IntKind.u64.wrap ((o5 x : Int) + (o5 x : Int).fdiv (2 ^ min 32 64)) = (o6 x : Int) := by
  rw [shrK (o5 x) 32 (by decide)]
  exact addN _ _ (o456 x hx).2.2.1
theorem bv_and_int (a b : Nat) (hb : b < 18446744073709551616) : ∀ x : Int, x % 18446744073709551616 = (a : Int) → a < 18446744073709551616 → (BitVec.ofInt 64 x &&& BitVec.ofInt 64 (b : Int)).toNat = a &&& b := by
  intro x hx ha
  rw [BitVec.toNat_and, BitVec.toNat_ofInt, BitVec.toNat_ofInt]
  have e1 : (x % ((2 ^ 64 : Nat) : Int)).toNat = a := by
    rw [show ((2 ^ 64 : Nat) : Int) = 18446744073709551616 from rfl, hx]; rfl
  have e2 : ((b : Int) % ((2 ^ 64 : Nat) : Int)).toNat = b := by
    rw [show ((2 ^ 64 : Nat) : Int) = 18446744073709551616 from rfl]; omega
  rw [e1, e2]
theorem w_o7 (x : Nat) (hx : x < 18446744073709551616) : bitI .and .i64 (IntKind.i64.wrap (o6 x : Int)) 127 = (pc 64 x : Int) := by
  have h := o456 x hx
  have e : (BitVec.ofInt IntKind.i64.bits (IntKind.i64.wrap (o6 x : Int)) &&& BitVec.ofInt IntKind.i64.bits (127 : Int)).toNat = o6 x &&& 127 := by
    refine bv_and_int (o6 x) 127 (by decide) _ ?_ h.2.2.1
    show (if (true && decide ((o6 x : Int) % (2 ^ 64 : Int) ≥ (2 ^ (64 - 1) : Int))) = true then (o6 x : Int) % (2 ^ 64 : Int) - (2 ^ 64 : Int) else (o6 x : Int) % (2 ^ 64 : Int)) % 18446744073709551616 = _
    have := h.2.2.1
    split <;> omega
  show IntKind.i64.wrap _ = _
  rw [e]
  have e2 : o6 x &&& 127 = pc 64 x := by
    have := Nat.and_two_pow_sub_one_eq_mod (o6 x) 7
    rw [show (2 : Nat) ^ 7 = 128 from rfl] at this
    exact this.trans h.2.2.2
  rw [e2]
  have hb : pc 64 x < 128 := by rw [← h.2.2.2]; omega
  exact wrapS ⟨by omega, by omega⟩

/-- One bit, as a number. -/
def oneAt (l : List Bool) (i : Int) : Int := if 0 ≤ i ∧ i < l.length then ((l.getD i.toNat false).toNat : Int) else 0
theorem oneAt_out (l : List Bool) {i : Int} (h : i < 0 ∨ (l.length : Int) ≤ i) : oneAt l i = 0 := by
  unfold oneAt; rw [if_neg (by omega)]
theorem oneAt_range (l : List Bool) (i : Int) : 0 ≤ oneAt l i ∧ oneAt l i ≤ 1 := by
  unfold oneAt
  split
  · have := boolNat_lt (l.getD i.toNat false); omega
  · omega
theorem and1 (a : Nat) (h : a < 18446744073709551616) : bitI .and .u64 (a : Int) 1 = ((a % 2 : Nat) : Int) := by
  have := bitand64 a 1 h (by decide)
  rw [and_one] at this; exact this
theorem oneAt_word (l : List Bool) {i : Int} (h0 : 0 ≤ i) (h1 : i < l.length) : IntKind.i64.wrap (bitI .and .u64 ((wordAt l (i / 64).toNat : Int).fdiv (2 ^ min (i % 64).toNat 64)) 1) = oneAt l i := by
  rw [shrN _ (by omega) (by omega), and1 _ (Nat.lt_of_le_of_lt (Nat.div_le_self _ _) (wordAt_lt _ _)), wordAt_bit l (by omega)]
  have e : 64 * (i / 64).toNat + (i % 64).toNat = i.toNat := by omega
  rw [e]
  unfold oneAt
  rw [if_pos ⟨h0, h1⟩]
  have := boolNat_lt (l.getD i.toNat false)
  exact wrapS ⟨by omega, by omega⟩
theorem oneAt_eq (l : List Bool) (i : Int) : (oneAt l i == 1) = (decide (0 ≤ i) && l.getD i.toNat false) := by
  unfold oneAt
  by_cases h : 0 ≤ i ∧ i < l.length
  · rw [if_pos h]
    cases l.getD i.toNat false <;> simp [h.1]
  · rw [if_neg h]
    by_cases h0 : 0 ≤ i
    · have : l.getD i.toNat false = false := by simp [List.getD, List.getElem?_eq_none (show l.length ≤ i.toNat by omega)]
      simp only [this, Bool.and_false]; rfl
    · simp [h0]
/-- The same words, the same bits. -/
theorem ws_inj {a b : List Bool} (h : a.length = b.length) (e : ws a = ws b) : a = b := by
  apply List.ext_getElem?
  intro i
  by_cases hi : i < a.length
  · have h1 : (ws a)[i / 64]? = (ws b)[i / 64]? := by rw [e]
    rw [ws_get a (by omega), ws_get b (by omega)] at h1
    have h2 : wordAt a (i / 64) = wordAt b (i / 64) := by
      have := Option.some.inj h1
      injection this with _ h3
      omega
    have h3 := wordAt_bit a (k := i / 64) (r := i % 64) (by omega)
    have h4 := wordAt_bit b (k := i / 64) (r := i % 64) (by omega)
    rw [h2, h4, show 64 * (i / 64) + i % 64 = i from by omega] at h3
    have h5 : a.getD i false = b.getD i false := by cases hx : a.getD i false <;> cases hy : b.getD i false <;> rw [hx, hy] at h3 <;> simp at h3 <;> rfl
    simp only [List.getD_eq_getElem?_getD] at h5
    rw [List.getElem?_eq_getElem hi, List.getElem?_eq_getElem (by omega)] at h5 ⊢
    simpa using h5
  · rw [List.getElem?_eq_none (by omega), List.getElem?_eq_none (by omega)]

/-- How many of the first bits are 1. -/
def cnt (l : List Bool) (i : Nat) : Nat := (l.take i).count true
theorem cnt_add (l : List Bool) (a b : Nat) : cnt l (a + b) = cnt l a + ((l.drop a).take b).count true := by
  unfold cnt; rw [List.take_add, List.count_append]
theorem cnt_le (l : List Bool) (i : Nat) : cnt l i ≤ i ∧ cnt l i ≤ l.length := by
  unfold cnt
  have h := List.count_le_length (a := true) (l := l.take i)
  rw [List.length_take] at h
  omega
theorem cnt_zero (l : List Bool) : cnt l 0 = 0 := by simp [cnt]
theorem cnt_word (l : List Bool) (k : Nat) : cnt l (64 * (k + 1)) = cnt l (64 * k) + pc 64 (wordAt l k) := by
  rw [show 64 * (k + 1) = 64 * k + 64 from by omega, cnt_add, wordAt, pc_natOf 64 _ (by simp; omega)]
theorem cnt_part (l : List Bool) (k r : Nat) (h : r ≤ 64) : cnt l (64 * k + r) = cnt l (64 * k) + pc 64 (wordAt l k % 2 ^ r) := by
  rw [cnt_add, wordAt, natOf_mod, pc_natOf 64 _ (by simp; omega), List.take_take, Nat.min_eq_left h]
theorem cnt_mono (l : List Bool) {a b : Nat} (h : a ≤ b) : cnt l a ≤ cnt l b := by
  obtain ⟨c, rfl⟩ := Nat.exists_eq_add_of_le h
  rw [cnt_add]; omega
theorem pc_le (x : Nat) (hx : x < 18446744073709551616) : pc 64 x < 128 := by
  rw [← (o456 x hx).2.2.2]; omega
theorem mask_word (x : Nat) (hx : x < 18446744073709551616) {r : Int} (h0 : 0 ≤ r) (h1 : r < 64) : bitI .and .u64 (x : Int) (IntKind.u64.wrap (IntKind.u64.wrap (1 * 2 ^ min r.toNat 64) - 1)) = ((x % 2 ^ r.toNat : Nat) : Int) := by
  rw [shl1 h0 h1]
  have hp : 0 < 2 ^ r.toNat := Nat.two_pow_pos _
  have h2 : 2 ^ r.toNat < 18446744073709551616 := two_pow_lt64 (by omega)
  have e : ((2 ^ r.toNat : Nat) : Int) - 1 = ((2 ^ r.toNat - 1 : Nat) : Int) := by omega
  rw [e, wrap64N _ (by omega), bitand64 _ _ hx (by omega), and_mask]

end Go.Proofs.Ytebegdnebjjnmaa.AM
