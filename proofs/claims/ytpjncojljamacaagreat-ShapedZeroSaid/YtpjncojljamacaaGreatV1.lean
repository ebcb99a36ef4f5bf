
/- Chapter 4: rows of symbols by levels, plainly. No condition. -/
import Derived.Test.YtpjncojljamacaaGreatK1
import Derived.Test.YtpjncojljamacaaGreatOO
set_option linter.unusedVariables false
set_option linter.unusedSimpArgs false
namespace Go.Proofs.YtpjncojljamacaaGreat.AM

def rowK (K : Nat → Nat) (b : Nat → Bool) (n : Nat) : List Bool := (List.range n).map (fun p => b ((stabG K n).getD p 0).toNat)
theorem rowK_len (K : Nat → Nat) (b : Nat → Bool) (n : Nat) : (rowK K b n).length = n := by simp [rowK]
theorem rowK_at {K : Nat → Nat} {b : Nat → Bool} {n q : Nat} (h : q < n) : (rowK K b n).getD (posK K n q) false = b q := by
  have hp := posK_lt K h
  have := stabG_at K h
  unfold rowK
  simp only [List.getD, List.getElem?_map, List.getElem?_range hp, Option.map_some, Option.getD_some]
  simp only [List.getD] at this
  rw [this, Int.toNat_natCast]
def nxtK (K : Nat → Nat) (b : Nat → Bool) : Nat → Nat := fun i => 2 * K i + (if b i = true then 1 else 0)
theorem cN_fit (K : Nat → Nat) (v n : Nat) {i : Nat} (h : i ≤ n) : cL K v n + cN K v i ≤ n := by
  have h1 := cN_mono K v h
  have h2 := cL_next K v n
  have h3 := cL_le K (v + 1) n
  omega
theorem cL_two (K : Nat → Nat) (b : Nat → Bool) (v : Nat) : ∀ t, cL (nxtK K b) (2 * v) t = cL K v t
  | 0 => rfl
  | t + 1 => by
    rw [cL, cL, cL_two K b v t]
    congr 1
    unfold nxtK
    by_cases h : K t < v
    · rw [if_pos h, if_pos (by split <;> omega)]
    · rw [if_neg h, if_neg (by split <;> omega)]
theorem cN_two (K : Nat → Nat) (b : Nat → Bool) (v : Nat) : ∀ t, cN (nxtK K b) (2 * v) t + cN (nxtK K b) (2 * v + 1) t = cN K v t
  | 0 => rfl
  | t + 1 => by
    have ih := cN_two K b v t
    rw [cN, cN, cN]
    unfold nxtK at ih ⊢
    by_cases h : K t = v
    · cases b t
      · rw [if_pos (by simp; omega), if_neg (by simp; omega), if_pos h]; omega
      · rw [if_neg (by simp; omega), if_pos (by simp; omega), if_pos h]; omega
    · cases b t
      · rw [if_neg (by simp; omega), if_neg (by simp; omega), if_neg h]; omega
      · rw [if_neg (by simp; omega), if_neg (by simp; omega), if_neg h]; omega
theorem row_count (K : Nat → Nat) (b : Nat → Bool) (n v : Nat) (β : Bool) : ∀ i, i ≤ n → cntB (rowK K b n) β (cL K v n + cN K v i) = cntB (rowK K b n) β (cL K v n) + cN (nxtK K b) (2 * v + (if β = true then 1 else 0)) i
  | 0, _ => rfl
  | i + 1, h => by
    have ih := row_count K b n v β i (by omega)
    have hs : cN (nxtK K b) (2 * v + (if β = true then 1 else 0)) (i + 1) = cN (nxtK K b) (2 * v + (if β = true then 1 else 0)) i + (if K i = v ∧ b i = β then 1 else 0) := by
      rw [cN]
      congr 1
      unfold nxtK
      cases β <;> cases b i <;> by_cases h : K i = v <;> simp [h] <;> omega
    generalize 2 * v + (if β = true then 1 else 0) = w at *
    rw [hs, cN]
    by_cases hv : K i = v
    · have hp : cL K v n + cN K v i = posK K n i := by unfold posK; rw [hv]
      have hlt := posK_lt K (show i < n by omega)
      rw [if_pos hv, ← Nat.add_assoc, cntB_succ _ _ (by rw [rowK_len, hp]; exact hlt), ih, hp, rowK_at (by omega)]
      by_cases hb : b i = β
      · rw [if_pos hb, if_pos ⟨hv, hb⟩]; omega
      · rw [if_neg hb, if_neg (fun h => hb h.2)]; omega
    · rw [if_neg hv, if_neg (fun h => hv h.1), Nat.add_zero, ih]; omega
theorem part_end (K : Nat → Nat) (v n : Nat) : cL K v n + cN K v n = cL K (v + 1) n := (cL_next K v n).symm
theorem zeros_of (K : Nat → Nat) (b : Nat → Bool) (n v : Nat) : cntB (rowK K b n) false (cL K (v + 1) n) = cntB (rowK K b n) false (cL K v n) + cN (nxtK K b) (2 * v) n := by
  rw [← part_end, row_count K b n v false n (Nat.le_refl _)]; rfl
theorem down_end0 (K : Nat → Nat) (b : Nat → Bool) (n v : Nat) : cL K v n + cN (nxtK K b) (2 * v) n = cL (nxtK K b) (2 * v + 1) n := by rw [cL_next, cL_two]
theorem down_end1 (K : Nat → Nat) (b : Nat → Bool) (n v : Nat) : cL K (v + 1) n = cL (nxtK K b) (2 * v + 2) n := by rw [show 2 * v + 2 = 2 * (v + 1) by omega, cL_two]
def levK (b : Nat → Nat → Bool) : Nat → Nat → Nat
  | 0 => fun _ => 0
  | k + 1 => nxtK (levK b k) (b k)
theorem levK_lt (b : Nat → Nat → Bool) : ∀ k i, levK b k i < 2 ^ k
  | 0, i => by simp [levK]
  | k + 1, i => by
    have := levK_lt b k i
    rw [levK, Nat.pow_succ]
    unfold nxtK
    split <;> omega
theorem levK_div (b : Nat → Nat → Bool) (k : Nat) : ∀ d i, levK b (k + d) i / 2 ^ d = levK b k i
  | 0, i => by simp
  | d + 1, i => by
    rw [show k + (d + 1) = (k + d) + 1 by omega, levK, Nat.pow_succ, Nat.mul_comm, ← Nat.div_div_eq_div_mul]
    have : nxtK (levK b (k + d)) (b (k + d)) i / 2 = levK b (k + d) i := by unfold nxtK; split <;> omega
    rw [this, levK_div b k d i]
theorem levK_bit (b : Nat → Nat → Bool) (k i : Nat) : decide (levK b (k + 1) i % 2 = 1) = b k i := by
  rw [levK]; unfold nxtK
  cases b k i <;> simp <;> omega
theorem levK_congr {b b' : Nat → Nat → Bool} {n : Nat} : ∀ {k : Nat}, (∀ j i, j < k → i < n → b j i = b' j i) → ∀ i, i < n → levK b k i = levK b' k i
  | 0, _, _, _ => rfl
  | k + 1, h, i, hi => by
    rw [levK, levK]
    unfold nxtK
    rw [levK_congr (fun j i hj => h j i (by omega)) i hi, h k i (by omega) hi]
def bitN (W : Nat) (s : Nat → Nat) (k i : Nat) : Bool := decide (s i / 2 ^ (W - 1 - k) % 2 = 1)
theorem levK_of {W : Nat} {s : Nat → Nat} {i : Nat} (h : s i < 2 ^ W) : ∀ k, k ≤ W → levK (bitN W s) k i = s i / 2 ^ (W - k)
  | 0, _ => by rw [levK, Nat.sub_zero, Nat.div_eq_of_lt h]
  | k + 1, hk => by
    have ih := levK_of h k (by omega)
    rw [levK]
    unfold nxtK
    rw [ih]
    have e : s i / 2 ^ (W - k) = s i / 2 ^ (W - (k + 1)) / 2 := by
      rw [show W - k = (W - (k + 1)) + 1 by omega, Nat.pow_succ, Nat.div_div_eq_div_mul]
    rw [e]
    unfold bitN
    rw [show W - 1 - k = W - (k + 1) by omega]
    by_cases g : s i / 2 ^ (W - (k + 1)) % 2 = 1
    · rw [decide_eq_true g, if_pos rfl]; omega
    · rw [decide_eq_false g, if_neg (by decide)]; omega
theorem sel_row {K : Nat → Nat} {b : Nat → Bool} {n q : Nat} (h : q < n) : selB (rowK K b n) (b q) ((cntB (rowK K b n) (b q) (cL K (K q) n) + cN (nxtK K b) (nxtK K b q) q : Nat) : Int) = posK K n q := by
  have h1 := row_count K b n (K q) (b q) q (by omega)
  have h2 : nxtK K b q = 2 * K q + (if b q = true then 1 else 0) := rfl
  have h3 : cL K (K q) n + cN K (K q) q = posK K n q := rfl
  rw [h2, ← h1, h3]
  exact sel_at (by rw [rowK_len]; exact posK_lt K h) (rowK_at h)
def bitsOfRows (B : Nat → List Bool) (n : Nat) : Nat → Nat → Nat × Bool
  | 0, i => (0, (B 0).getD (posK (fun _ => 0) n i) false)
  | k + 1, i =>
    let K := fun j => 2 * (bitsOfRows B n k j).1 + (if (bitsOfRows B n k j).2 = true then 1 else 0)
    (K i, (B (k + 1)).getD (posK K n i) false)
def bR (B : Nat → List Bool) (n k i : Nat) : Bool := (bitsOfRows B n k i).2
theorem bR_lev (B : Nat → List Bool) (n : Nat) : ∀ k i, (bitsOfRows B n k i).1 = levK (bR B n) k i
  | 0, i => by simp [bitsOfRows, levK]
  | k + 1, i => by
    rw [levK]
    unfold nxtK
    rw [← bR_lev B n k i]
    rfl
theorem bR_get (B : Nat → List Bool) (n k i : Nat) : bR B n k i = (B k).getD (posK (levK (bR B n) k) n i) false := by
  cases k with
  | zero => rfl
  | succ k =>
    have : (fun j => 2 * (bitsOfRows B n k j).1 + (if (bitsOfRows B n k j).2 = true then 1 else 0)) = levK (bR B n) (k + 1) := by
      funext j
      rw [levK]
      unfold nxtK
      rw [← bR_lev B n k j]
      rfl
    rw [← this]
    rfl
theorem posK_onto (K : Nat → Nat) {n p : Nat} (h : p < n) : ∃ q, q < n ∧ posK K n q = p := by
  obtain ⟨q, _, h2, h3⟩ := stabG_who K h
  exact ⟨q, h2, h3⟩
theorem row_of_rows {B : Nat → List Bool} {n k : Nat} (h : (B k).length = n) : rowK (levK (bR B n) k) (bR B n k) n = B k := by
  apply List.ext_getElem (by rw [rowK_len, h])
  intro p h1 h2
  rw [rowK_len] at h1
  obtain ⟨q, hq, hp⟩ := posK_onto (levK (bR B n) k) h1
  have e1 := rowK_at (K := levK (bR B n) k) (b := bR B n k) hq
  rw [hp, bR_get, hp] at e1
  have e2 : ∀ (L : List Bool) (hp : p < L.length), L.getD p false = L[p] := fun L hp => by simp [List.getD, List.getElem?_eq_getElem hp]
  rw [e2 _ (by rw [rowK_len]; exact h1), e2 _ h2] at e1
  exact e1
end Go.Proofs.YtpjncojljamacaaGreat.AM
