
/- Chapter 4: counts of symbols, and a wave's rows, plainly. No condition. -/
import Derived.Test.YtpjncojljamacaaGreatV1
set_option linter.unusedVariables false
set_option linter.unusedSimpArgs false
namespace Go.Proofs.YtpjncojljamacaaGreat.AM

def sy (l : List Int) (i : Nat) : Nat := (l.getD i 0).toNat
def cP (p : Int → Bool) (l : List Int) : Nat → Nat
  | 0 => 0
  | i + 1 => cP p l i + (if p (l.getD i 0) = true then 1 else 0)
theorem cP_le (p : Int → Bool) (l : List Int) : ∀ i, cP p l i ≤ i
  | 0 => Nat.le_refl _
  | i + 1 => by have := cP_le p l i; rw [cP]; split <;> omega
def cV (W c k : Nat) : Nat := c / 2 ^ (W - k)
theorem cV_all (W c : Nat) : cV W c W = c := by unfold cV; rw [Nat.sub_self]; simp
structure WOk (l : List Int) (W : Nat) (rows : List (List Bool)) : Prop where
  len : rows.length = W
  sym : ∀ x ∈ l, 0 ≤ x ∧ x.toNat < 2 ^ W
  row : ∀ k, k < W → rows.getD k [] = rowK (levK (bitN W (sy l)) k) (bitN W (sy l) k) l.length
def wK (l : List Int) (W k : Nat) : Nat → Nat := levK (bitN W (sy l)) k
theorem cN_congr {K K' : Nat → Nat} {v : Nat} : ∀ {n : Nat}, (∀ i, i < n → K i = K' i) → cN K v n = cN K' v n
  | 0, _ => rfl
  | n + 1, h => by rw [cN, cN, cN_congr (fun i hi => h i (by omega)), h n (by omega)]
namespace WOk
variable {l : List Int} {W : Nat} {rows : List (List Bool)}
theorem lt (h : WOk l W rows) {i : Nat} (hi : i < l.length) : sy l i < 2 ^ W := (h.sym _ (getD_mem hi)).2
theorem key (h : WOk l W rows) {k i : Nat} (hk : k ≤ W) (hi : i < l.length) : wK l W k i = cV W (sy l i) k := levK_of (h.lt hi) k hk
theorem keyW (h : WOk l W rows) {i : Nat} (hi : i < l.length) : wK l W W i = sy l i := by rw [h.key (Nat.le_refl _) hi, cV_all]
theorem cnt (h : WOk l W rows) (c : Nat) {i : Nat} (hi : i ≤ l.length) : cN (wK l W W) c i = cN (sy l) c i := cN_congr (fun j hj => h.keyW (by omega))
end WOk
end Go.Proofs.YtpjncojljamacaaGreat.AM
