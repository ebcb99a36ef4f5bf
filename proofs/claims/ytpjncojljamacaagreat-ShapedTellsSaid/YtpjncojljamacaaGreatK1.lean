
/- Plain facts for chapter 3: counts and places. No condition. -/
import Derived.Test.YtpjncojljamacaaGreatG6
import Derived.Test.YtpjncojljamacaaGreatFF
set_option linter.unusedVariables false
set_option linter.unusedSimpArgs false
set_option maxRecDepth 20000
namespace Go.Proofs.YtpjncojljamacaaGreat.AM
open Go Go.RowKit

theorem pc_clear : ∀ (f x : Nat), x ≠ 0 → x < 2 ^ f → pc f (x &&& (x - 1)) + 1 = pc f x
  | 0, x, h, hx => by omega
  | f + 1, x, h, hx => by
    rw [Nat.pow_succ] at hx
    have e1 : (x &&& (x - 1)) / 2 = x / 2 &&& (x - 1) / 2 := Nat.and_div_two
    have e0 : (x &&& (x - 1)) % 2 = 0 := by
      have : (x &&& (x - 1)) % 2 ^ 1 = x % 2 ^ 1 &&& (x - 1) % 2 ^ 1 := Nat.and_mod_two_pow
      rw [Nat.pow_one] at this
      rw [this]
      rcases Nat.mod_two_eq_zero_or_one x with h1 | h1
      · rw [h1]; simp
      · rw [show (x - 1) % 2 = 0 by omega]; simp
    simp only [pc, e0, e1]
    rcases Nat.mod_two_eq_zero_or_one x with h1 | h1
    · have ih := pc_clear f (x / 2) (by omega) (by omega)
      rw [show (x - 1) / 2 = x / 2 - 1 by omega, h1]; omega
    · rw [show (x - 1) / 2 = x / 2 by omega, Nat.and_self, h1]; omega
theorem pc_pos (f x : Nat) (h : x ≠ 0) (hx : x < 2 ^ f) : 1 ≤ pc f x := by
  have := pc_clear f x h hx; omega
theorem pc_zero : ∀ f, pc f 0 = 0
  | 0 => rfl
  | f + 1 => by simp only [pc]; rw [show 0 / 2 = 0 from rfl, pc_zero f]
theorem pc_num (l : List Bool) (a w : Nat) (hw : w ≤ 64) : cnt l (a + w) = cnt l a + pc 64 (numN l a w) := by
  rw [cnt_add]
  unfold numN
  rw [pc_natOf 64 _ (by rw [List.length_take]; omega)]

/-! ### places -/
def fs (a : Nat → Nat) (n : Nat) (k : Int) : Nat := findI ((List.range n).map fun j => (a (j + 1) : Int)) (k + 1)
theorem fs_get (a : Nat → Nat) (n : Nat) {j : Nat} (h : j < n) : ((List.range n).map fun j => (a (j + 1) : Int)).getD j 0 = (a (j + 1) : Int) := by
  simp [List.getD, h]
theorem fs_le (a : Nat → Nat) (n : Nat) (k : Int) : fs a n k ≤ n := by
  have := findI_le ((List.range n).map fun j => (a (j + 1) : Int)) (k + 1)
  unfold fs; simpa using this
theorem fs_lt (a : Nat → Nat) (n : Nat) (k : Int) {j : Nat} (h : j < fs a n k) : (a (j + 1) : Int) ≤ k := by
  have h1 := findI_lt _ _ j h
  have h2 := fs_le a n k
  rw [fs_get a n (by omega)] at h1; omega
theorem fs_ge (a : Nat → Nat) (n : Nat) (k : Int) (h : fs a n k < n) : k < (a (fs a n k + 1) : Int) := by
  have h1 := findI_ge ((List.range n).map fun j => (a (j + 1) : Int)) (k + 1)
  change fs a n k = _ ∨ _ ≤ List.getD _ (fs a n k) 0 at h1
  rw [List.length_map, List.length_range, fs_get a n h] at h1; omega
theorem fs_at (a : Nat → Nat) (n : Nat) (k : Int) {j : Nat} (hj : j ≤ n) (h1 : ∀ i, i < j → (a (i + 1) : Int) ≤ k) (h2 : j = n ∨ k < (a (j + 1) : Int)) : fs a n k = j := by
  refine findI_at (fun i hi => ?_) (by simpa using hj) ?_
  · rw [fs_get a n (by omega)]; have := h1 i hi; omega
  · rcases h2 with h2 | h2
    · left; simpa using h2
    · by_cases e : j = n
      · left; simpa using e
      · right; rw [fs_get a n (by omega)]; omega
def cntB (l : List Bool) (b : Bool) (i : Nat) : Nat := (l.take i).count b
theorem cntB_true (l : List Bool) (i : Nat) : cntB l true i = cnt l i := rfl
theorem cntB_succ (l : List Bool) (b : Bool) {i : Nat} (h : i < l.length) : cntB l b (i + 1) = cntB l b i + (if l.getD i false = b then 1 else 0) := by
  unfold cntB
  rw [List.take_add_one, List.getElem?_eq_getElem h, List.count_append]
  have e : l.getD i false = l[i] := by simp [List.getD, List.getElem?_eq_getElem h]
  rw [e]
  simp [List.count_cons]
theorem cntB_zero (l : List Bool) (b : Bool) : cntB l b 0 = 0 := by simp [cntB]
theorem cntB_mono (l : List Bool) (b : Bool) {i j : Nat} (h : i ≤ j) : cntB l b i ≤ cntB l b j := by
  unfold cntB
  exact List.Sublist.count_le _ (List.take_sublist_take_left h)
theorem cntB_all (l : List Bool) (b : Bool) {i : Nat} (h : l.length ≤ i) : cntB l b i = cntB l b l.length := by
  unfold cntB
  rw [List.take_of_length_le h, List.take_of_length_le (Nat.le_refl _)]
theorem cntB_sum (l : List Bool) {i : Nat} (h : i ≤ l.length) : cntB l false i + cntB l true i = i := by
  induction i with
  | zero => simp [cntB_zero]
  | succ i ih =>
    rw [cntB_succ l false (by omega), cntB_succ l true (by omega)]
    have := ih (by omega)
    cases l.getD i false <;> simp <;> omega
def selB (l : List Bool) (b : Bool) (k : Int) : Int := if k < 0 ∨ (cntB l b l.length : Int) ≤ k then -1 else fs (cntB l b) l.length k
theorem sel_at {l : List Bool} {b : Bool} {i : Nat} (h : i < l.length) (hb : l.getD i false = b) : selB l b (cntB l b i) = i := by
  have hs := cntB_succ l b h
  rw [if_pos hb] at hs
  have hm := cntB_mono l b (show i + 1 ≤ l.length by omega)
  unfold selB
  rw [if_neg (by omega)]
  rw [fs_at (cntB l b) l.length _ (j := i) (by omega) (fun j hj => by have := cntB_mono l b (show j + 1 ≤ i by omega); omega) (.inr (by omega))]
end Go.Proofs.YtpjncojljamacaaGreat.AM
