
/- The document's put, on a row of the caller's own. No condition but lengths that fit. -/
import Derived.Test.YtpjncojljamacaaGreatFF
set_option linter.unusedVariables false
set_option linter.unusedSimpArgs false
set_option maxRecDepth 20000
namespace Go.Proofs.YtpjncojljamacaaGreat.AM
open Go Go.RowKit

theorem shr_fits (x : Nat) (hx : x < 18446744073709551616) {w : Int} (h0 : 0 ≤ w) (h1 : w < 64) : ((x : Int).fdiv (2 ^ min w.toNat 64) > 0) ↔ ¬ x < 2 ^ w.toNat := by
  rw [shrN x h0 h1]
  have hp := Nat.two_pow_pos w.toNat
  constructor
  · intro h hc
    rw [Nat.div_eq_of_lt hc] at h; simp at h
  · intro h
    have := Nat.div_pos (show 2 ^ w.toNat ≤ x by omega) hp
    omega
theorem bit_dec (x j : Nat) : decide (((x / 2 ^ j : Nat) : Int) % 2 = 1) = (x / 2 ^ j % 2 == 1) := by
  generalize x / 2 ^ j = t
  have h : t % 2 < 2 := Nat.mod_lt _ (by decide)
  by_cases h1 : t % 2 = 1
  · rw [h1]; rw [decide_eq_true (by omega)]; rfl
  · rw [decide_eq_false (by omega), show t % 2 = 0 from by omega]; rfl
theorem half_step (x j : Nat) : ((x / 2 ^ j : Nat) : Int) / 2 = ((x / 2 ^ (j + 1) : Nat) : Int) := by
  rw [Nat.pow_succ, ← Nat.div_div_eq_div_mul]; omega

theorem bit_decT (x j : Nat) : decide (((x / 2 ^ j : Nat) : Int).tmod 2 = 1) = (x / 2 ^ j % 2 == 1) := by
  rw [Int.tmod_eq_emod_of_nonneg (Int.natCast_nonneg _), bit_dec]
theorem half_stepT (x j : Nat) (hx : x < 18446744073709551616) : IntKind.u64.wrap (((x / 2 ^ j : Nat) : Int).tdiv 2) = ((x / 2 ^ (j + 1) : Nat) : Int) := by
  rw [Int.tdiv_eq_ediv_of_nonneg (Int.natCast_nonneg _), half_step]
  have := Nat.div_le_self x (2 ^ (j + 1))
  exact wrapU ⟨Int.natCast_nonneg _, by omega⟩

def rowM (l : List Bool) : MO := .row true 4 1 (l.map .bool)
attribute [go_sem] rowM
end Go.Proofs.YtpjncojljamacaaGreat.AM
