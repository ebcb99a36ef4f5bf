
/- Chapter 4: counts of symbols, and a wave's rows, plainly. No condition. -/
import Derived.Test.YtpjncojljamacaaGreatV1
set_option linter.unusedVariables false
set_option linter.unusedSimpArgs false
namespace Go.Proofs.YtpjncojljamacaaGreat.AM

def sy (l : List Int) (i : Nat) : Nat := (l.getD i 0).toNat
def cP (p : Int → Bool) (l : List Int) : Nat → Nat
  | 0 => 0
  | i + 1 => cP p l i + (if p (l.getD i 0) = true then 1 else 0)
theorem cP_le (p : Int → Bool) (l : List Int) : ∀ i, cP p l i ≤ i
  | 0 => Nat.le_refl _
  | i + 1 => by have := cP_le p l i; rw [cP]; split <;> omega
theorem cP_cN {l : List Int} {c : Int} (hl : ∀ x ∈ l, 0 ≤ x) (hc : 0 ≤ c) : ∀ i, i ≤ l.length → cP (fun x => decide (x = c)) l i = cN (sy l) c.toNat i
  | 0, _ => rfl
  | i + 1, h => by
    rw [cP, cN, cP_cN hl hc i (by omega)]
    congr 1
    have := hl _ (getD_mem (l := l) (k := i) (by omega))
    unfold sy
    by_cases e : l.getD i 0 = c
    · rw [if_pos (decide_eq_true e), if_pos (by omega)]
    · rw [if_neg (by simpa using e), if_neg (by omega)]
theorem cP_cL {l : List Int} {c : Int} (hl : ∀ x ∈ l, 0 ≤ x) (hc : 0 ≤ c) : ∀ i, i ≤ l.length → cP (fun x => decide (x < c)) l i = cL (sy l) c.toNat i
  | 0, _ => rfl
  | i + 1, h => by
    rw [cP, cL, cP_cL hl hc i (by omega)]
    congr 1
    have := hl _ (getD_mem (l := l) (k := i) (by omega))
    unfold sy
    by_cases e : l.getD i 0 < c
    · rw [if_pos (decide_eq_true e), if_pos (by omega)]
    · rw [if_neg (by simpa using e), if_neg (by omega)]
def cV (W c k : Nat) : Nat := c / 2 ^ (W - k)
theorem cV_succ {W c k : Nat} (h : k < W) : cV W c (k + 1) = 2 * cV W c k + c / 2 ^ (W - 1 - k) % 2 := by
  unfold cV
  have e : c / 2 ^ (W - k) = c / 2 ^ (W - (k + 1)) / 2 := by rw [show W - k = (W - (k + 1)) + 1 by omega, Nat.pow_succ, Nat.div_div_eq_div_mul]
  rw [e, show W - 1 - k = W - (k + 1) by omega]
  omega
theorem cV_zero {W c : Nat} (h : c < 2 ^ W) : cV W c 0 = 0 := by unfold cV; rw [Nat.sub_zero, Nat.div_eq_of_lt h]
theorem cV_all (W c : Nat) : cV W c W = c := by unfold cV; rw [Nat.sub_self]; simp
structure WOk (l : List Int) (W : Nat) (rows : List (List Bool)) : Prop where
  len : rows.length = W
  sym : ∀ x ∈ l, 0 ≤ x ∧ x.toNat < 2 ^ W
  row : ∀ k, k < W → rows.getD k [] = rowK (levK (bitN W (sy l)) k) (bitN W (sy l) k) l.length
def wK (l : List Int) (W k : Nat) : Nat → Nat := levK (bitN W (sy l)) k
theorem wK_succ (l : List Int) (W k : Nat) : wK l W (k + 1) = nxtK (wK l W k) (bitN W (sy l) k) := rfl
theorem cN_congr {K K' : Nat → Nat} {v : Nat} : ∀ {n : Nat}, (∀ i, i < n → K i = K' i) → cN K v n = cN K' v n
  | 0, _ => rfl
  | n + 1, h => by rw [cN, cN, cN_congr (fun i hi => h i (by omega)), h n (by omega)]
theorem cL_congr {K K' : Nat → Nat} {v : Nat} : ∀ {n : Nat}, (∀ i, i < n → K i = K' i) → cL K v n = cL K' v n
  | 0, _ => rfl
  | n + 1, h => by rw [cL, cL, cL_congr (fun i hi => h i (by omega)), h n (by omega)]
namespace WOk
variable {l : List Int} {W : Nat} {rows : List (List Bool)}
theorem lt (h : WOk l W rows) {i : Nat} (hi : i < l.length) : sy l i < 2 ^ W := (h.sym _ (getD_mem hi)).2
theorem key (h : WOk l W rows) {k i : Nat} (hk : k ≤ W) (hi : i < l.length) : wK l W k i = cV W (sy l i) k := levK_of (h.lt hi) k hk
theorem keyW (h : WOk l W rows) {i : Nat} (hi : i < l.length) : wK l W W i = sy l i := by rw [h.key (Nat.le_refl _) hi, cV_all]
theorem cnt (h : WOk l W rows) (c : Nat) {i : Nat} (hi : i ≤ l.length) : cN (wK l W W) c i = cN (sy l) c i := cN_congr (fun j hj => h.keyW (by omega))
theorem low (h : WOk l W rows) (c : Nat) {i : Nat} (hi : i ≤ l.length) : cL (wK l W W) c i = cL (sy l) c i := cL_congr (fun j hj => h.keyW (by omega))
end WOk
theorem cN0 (l : List Int) (W : Nat) : ∀ i, cN (wK l W 0) 0 i = i
  | 0 => rfl
  | i + 1 => by rw [cN, cN0 l W i]; rfl
theorem cL0 (l : List Int) (W : Nat) : ∀ i, cL (wK l W 0) 1 i = i := fun i => by
  rw [cL_next, cN0, cL_zero, Nat.zero_add]
end Go.Proofs.YtpjncojljamacaaGreat.AM
