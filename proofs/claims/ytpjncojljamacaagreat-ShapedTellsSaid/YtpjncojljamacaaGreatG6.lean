
/- Plain facts for chapter 2: rows in order, tight rows. No condition. -/
import Derived.Test.YtpjncojljamacaaGreatG4
import Derived.Test.YtpjncojljamacaaGreatAC
set_option linter.unusedVariables false
set_option linter.unusedSimpArgs false
set_option maxRecDepth 20000
namespace Go.Proofs.YtpjncojljamacaaGreat.AM
open Go Go.RowKit

/-! ### rows in order -/
def srt (l : List Int) : Prop := l.Pairwise (· ≤ ·)
/-! ### tight rows -/
theorem mostI_ge : ∀ (l : List Int) (m : Int), m ≤ l.foldl max m ∧ ∀ x ∈ l, x ≤ l.foldl max m
  | [], m => ⟨Int.le_refl _, by simp⟩
  | y :: l, m => by
    obtain ⟨h1, h2⟩ := mostI_ge l (max m y)
    refine ⟨by rw [List.foldl_cons]; omega, fun x hx => ?_⟩
    rw [List.foldl_cons]
    rcases List.mem_cons.1 hx with rfl | hx
    · omega
    · exact h2 x hx
theorem mostI_le (b : Int) : ∀ (l : List Int) (m : Int), m ≤ b → (∀ x ∈ l, x ≤ b) → l.foldl max m ≤ b
  | [], m, h, _ => h
  | y :: l, m, h, hl => by
    rw [List.foldl_cons]
    have := hl y (by simp)
    exact mostI_le b l (max m y) (by omega) (fun x hx => hl x (by simp [hx]))
theorem tight_ok {l : List Int} (h : ∀ x ∈ l, 0 ≤ x ∧ x < 4611686018427387904) : packOk l (widN (mostI l) : Int) = true ∧ widN (mostI l) ≤ 62 := by
  have hm0 := (mostI_ge l 0).1
  have hm1 := (mostI_ge l 0).2
  have hm2 := mostI_le 4611686018427387903 l 0 (by omega) (fun x hx => by have := h x hx; omega)
  change 0 ≤ mostI l at hm0
  change ∀ x ∈ l, x ≤ mostI l at hm1
  change mostI l ≤ 4611686018427387903 at hm2
  have hw : widN (mostI l) ≤ 62 := (widN_fits hm0 (by omega) (by omega)).2 (by omega)
  refine ⟨?_, hw⟩
  unfold packOk
  rw [decide_eq_true (by omega), Bool.true_and, Bool.not_eq_true', List.any_eq_false]
  intro x hx
  have h1 := h x hx
  have h2 := hm1 x hx
  have h3 : widN x ≤ widN (mostI l) := by
    have h5 := (widN_fits hm0 (by omega) (w := widN (mostI l)) (by omega)).1 (Nat.le_refl _)
    exact (widN_fits h1.1 (by omega) (by omega)).2 (by omega)
  unfold wrongI
  rw [decide_eq_false (by omega), decide_eq_false (by omega)]
  simp
def tightV (l : List Int) : IV := intsV l.length (widN (mostI l)) (rowOf l (widN (mostI l)))
attribute [go_sem] tightV
theorem Tight_good (l : List Int) (hl : l.length ≤ 1000000000) (h : ∀ x ∈ l, 0 ≤ x ∧ x < 4611686018427387904) : PCalls Tryz.prog 46 [inl l] (.tup [tightV l, .int .i64 0]) := by
  have := Tight_spec l hl (fun n hn => by have := h n hn; exact ⟨by omega, by omega⟩)
  rw [if_pos (tight_ok h).1, if_pos (tight_ok h).1] at this
  exact this
theorem tight_vals {l : List Int} (h : ∀ x ∈ l, 0 ≤ x ∧ x < 4611686018427387904) : vals l.length (widN (mostI l)) (rowOf l (widN (mostI l))) = l := by
  have h1 := (tight_ok h).1
  have h2 := packOk_fits h1 (fun n hn => by have := h n hn; exact ⟨by omega, by omega⟩)
  rw [Int.toNat_natCast] at h2
  exact vals_pack h2.2.2
end Go.Proofs.YtpjncojljamacaaGreat.AM
