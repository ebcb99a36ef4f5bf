
/- Chapter 4: rows of symbols by levels, plainly. No condition. -/
import Derived.Test.YtpjncojljamacaaGreatK1
import Derived.Test.YtpjncojljamacaaGreatOO
set_option linter.unusedVariables false
set_option linter.unusedSimpArgs false
namespace Go.Proofs.YtpjncojljamacaaGreat.AM

def rowK (K : Nat → Nat) (b : Nat → Bool) (n : Nat) : List Bool := (List.range n).map (fun p => b ((stabG K n).getD p 0).toNat)
def nxtK (K : Nat → Nat) (b : Nat → Bool) : Nat → Nat := fun i => 2 * K i + (if b i = true then 1 else 0)
def levK (b : Nat → Nat → Bool) : Nat → Nat → Nat
  | 0 => fun _ => 0
  | k + 1 => nxtK (levK b k) (b k)
def bitN (W : Nat) (s : Nat → Nat) (k i : Nat) : Bool := decide (s i / 2 ^ (W - 1 - k) % 2 = 1)
theorem levK_of {W : Nat} {s : Nat → Nat} {i : Nat} (h : s i < 2 ^ W) : ∀ k, k ≤ W → levK (bitN W s) k i = s i / 2 ^ (W - k)
  | 0, _ => by rw [levK, Nat.sub_zero, Nat.div_eq_of_lt h]
  | k + 1, hk => by
    have ih := levK_of h k (by omega)
    rw [levK]
    unfold nxtK
    rw [ih]
    have e : s i / 2 ^ (W - k) = s i / 2 ^ (W - (k + 1)) / 2 := by
      rw [show W - k = (W - (k + 1)) + 1 by omega, Nat.pow_succ, Nat.div_div_eq_div_mul]
    rw [e]
    unfold bitN
    rw [show W - 1 - k = W - (k + 1) by omega]
    by_cases g : s i / 2 ^ (W - (k + 1)) % 2 = 1
    · rw [decide_eq_true g, if_pos rfl]; omega
    · rw [decide_eq_false g, if_neg (by decide)]; omega
end Go.Proofs.YtpjncojljamacaaGreat.AM
