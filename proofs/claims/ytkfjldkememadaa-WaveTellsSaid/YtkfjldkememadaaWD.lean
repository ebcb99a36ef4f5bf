
/- Chapter 4: what a wave tells is what the references tell. No condition but lengths that fit. -/
import Derived.Test.YtkfjldkememadaaWC
set_option linter.unusedVariables false
set_option linter.unusedSimpArgs false
set_option maxRecDepth 20000
namespace Go.Proofs.Ytkfjldkememadaa.AM
open Go Go.RowKit

theorem cP_none {p : Int → Bool} {l : List Int} (h : ∀ x ∈ l, p x = false) : ∀ i, i ≤ l.length → cP p l i = 0
  | 0, _ => rfl
  | i + 1, hi => by rw [cP, cP_none h i (by omega), h _ (getD_mem (by omega))]; rfl
theorem cP_full {p : Int → Bool} {l : List Int} (h : ∀ x ∈ l, p x = true) : ∀ i, i ≤ l.length → cP p l i = i
  | 0, _ => rfl
  | i + 1, hi => by rw [cP, cP_full h i (by omega), h _ (getD_mem (by omega))]; rfl
section
variable {s : Int} {m : List Int} {W : Nat} {rows : List (List Bool)}
theorem tell_sel (hw : WOk m W rows) (hsym : ∀ x ∈ m, 0 ≤ x ∧ x < s) (hpow : ∀ c : Nat, (c : Int) < s → c < 2 ^ W) (hW : W ≤ 17) (hn : m.length ≤ 80) (c x : Int) (hx : small x) :
    ∃ v : Int, PCalls Try.prog 15 [waveV m.length s rows, .int .i64 c, .int .i64 x] (.int .i64 v) ∧ PCalls Try.prog 23 [inl m, .int .i64 c, .int .i64 x] (.int .i64 v) := by
  by_cases hc : 0 ≤ c ∧ c < s
  · obtain ⟨C, rfl⟩ : ∃ C : Nat, c = C := ⟨c.toNat, by omega⟩
    have hcp := fun i hi => cP_cN (l := m) (c := (C : Int)) (fun x hx => (hsym x hx).1) (by omega) i hi
    rw [Int.toNat_natCast] at hcp
    by_cases h : x < 0 ∨ (cN (sy m) C m.length : Nat) ≤ x
    · exact ⟨-1, Select_out1 hw s C hc.2 (hpow C hc.2) x (by omega) (by omega) h, RefSel_out m C x (by omega) (by rw [hcp _ (Nat.le_refl _)]; exact h) hx⟩
    · obtain ⟨k, rfl⟩ : ∃ k : Nat, x = k := ⟨x.toNat, by omega⟩
      obtain ⟨q, h1, h2, h3⟩ := sel_ex (sy m) C (n := m.length) (k := k) (by omega)
      have e1 := Select_in hw s q h1 (sy_lt hsym h1) (by omega) (by omega)
      rw [h2, h3] at e1
      have e2 := RefSel_in m C q h1 (by omega) (by rw [sy_eq hsym h1, h2])
      rw [hcp q (by omega), h3] at e2
      exact ⟨q, e1, e2⟩
  · refine ⟨-1, Select_out0 m.length s rows c x hc, RefSel_out m c x (by omega) ?_ hx⟩
    rw [cP_none (fun y hy => by have := hsym y hy; rw [decide_eq_false_iff_not]; omega) _ (Nat.le_refl _)]
    omega
theorem tell_below (hw : WOk m W rows) (hsym : ∀ x ∈ m, 0 ≤ x ∧ x < s) (hpow : ∀ c : Nat, (c : Int) < s → c < 2 ^ W) (hW : W ≤ 17) (hn : m.length ≤ 80) (c x : Int) :
    ∃ v : Int, PCalls Try.prog 14 [waveV m.length s rows, .int .i64 c, .int .i64 x] (.int .i64 v) ∧ PCalls Try.prog 24 [inl m, .int .i64 c, .int .i64 x] (.int .i64 v) := by
  have hR := RefBelow4 m c x (by omega)
  have hE := Below_edge m.length s rows c x (by omega)
  have hle := clI_le m.length x
  by_cases h0 : c ≤ 0
  · rw [cP_none (fun y hy => by have := hsym y hy; rw [decide_eq_false_iff_not]; omega) _ hle] at hR
    exact ⟨_, hE.1 h0, hR⟩
  · by_cases h1 : s ≤ c
    · rw [cP_full (fun y hy => by have := hsym y hy; rw [decide_eq_true_eq]; omega) _ hle] at hR
      exact ⟨_, hE.2 (by omega) h1, hR⟩
    · obtain ⟨C, rfl⟩ : ∃ C : Nat, c = C := ⟨c.toNat, by omega⟩
      rw [cP_cL (fun x hx => (hsym x hx).1) (by omega) _ hle, Int.toNat_natCast] at hR
      exact ⟨_, Below_in hw s C (by omega) (by omega) (hpow C (by omega)) x (by omega) (by omega), hR⟩
def ctR (m : List Int) (c x y : Int) : Nat → Nat
  | 0 => 0
  | k + 1 => ctR m c x y k + (if (k : Int) ≥ x ∧ (k : Int) < y ∧ m.getD k 0 = c then 1 else 0)
theorem ctR_le (m : List Int) (c x y : Int) : ∀ k, ctR m c x y k ≤ k
  | 0 => Nat.le_refl _
  | k + 1 => by have := ctR_le m c x y k; rw [ctR]; split <;> omega
theorem ctR_cN (hsym : ∀ x ∈ m, 0 ≤ x ∧ x < s) (C : Nat) (x y : Int) : ∀ k, k ≤ m.length → ctR m C x y k + cN (sy m) C (min k (clI m.length x)) = cN (sy m) C (min k (clI m.length (max y (clI m.length x))))
  | 0, _ => by rw [Nat.zero_min, Nat.zero_min]; rfl
  | k + 1, hk => by
    have ih := ctR_cN hsym C x y k (by omega)
    have hsy := sy_eq hsym (show k < m.length by omega)
    obtain ⟨a, ha⟩ : ∃ a, a = clI m.length x := ⟨_, rfl⟩
    obtain ⟨b, hb⟩ : ∃ b, b = clI m.length (max y a) := ⟨_, rfl⟩
    rw [← ha] at ih ⊢
    rw [← hb] at ih ⊢
    have h1 : (k : Int) ≥ x ↔ a ≤ k := by rw [ha]; unfold clI; omega
    have h2 : a ≤ k → ((k : Int) < y ↔ k < b) := fun h => by rw [hb]; unfold clI; omega
    have hab : a ≤ b := by
      have := clI_le m.length x
      rw [hb]; unfold clI; omega
    rw [ctR]
    by_cases g1 : a ≤ k
    · by_cases g2 : k < b
      · rw [Nat.min_eq_right (show a ≤ k + 1 by omega), Nat.min_eq_left (show k + 1 ≤ b by omega), cN]
        rw [Nat.min_eq_right g1, Nat.min_eq_left (by omega)] at ih
        by_cases g3 : sy m k = C
        · rw [if_pos ⟨h1.2 g1, (h2 g1).2 g2, by omega⟩, if_pos g3]; omega
        · rw [if_neg (fun h => g3 (by omega)), if_neg g3]; omega
      · rw [if_neg (fun h => g2 ((h2 g1).1 h.2.1)), Nat.min_eq_right (show a ≤ k + 1 by omega), Nat.min_eq_right (show b ≤ k + 1 by omega)]
        rw [Nat.min_eq_right g1, Nat.min_eq_right (by omega)] at ih
        omega
    · rw [if_neg (fun h => g1 (h1.1 h.1)), Nat.min_eq_left (show k + 1 ≤ a by omega), Nat.min_eq_left (show k + 1 ≤ b by omega)]
      rw [Nat.min_eq_left (show k ≤ a by omega), Nat.min_eq_left (show k ≤ b by omega)] at ih
      omega
theorem tell_count (hw : WOk m W rows) (hsym : ∀ x ∈ m, 0 ≤ x ∧ x < s) (hpow : ∀ c : Nat, (c : Int) < s → c < 2 ^ W) (hW : W ≤ 17) (hn : m.length ≤ 80) (c x y : Int) (h0 : 0 ≤ c) (h1 : c < s) :
    PCalls Try.prog 16 [waveV m.length s rows, .int .i64 c, .int .i64 x, .int .i64 y] (.int .i64 (ctR m c x y m.length : Nat)) ∧ PCalls Try.prog 13 [waveV m.length s rows, .int .i64 c, .int .i64 x] (.int .i64 (cP (fun z => decide (z = c)) m (clI m.length x) : Nat)) := by
  obtain ⟨C, rfl⟩ : ∃ C : Nat, c = C := ⟨c.toNat, by omega⟩
  have hc := Count_in hw s C h1 (hpow C h1) x y (by omega) (by omega)
  have he := ctR_cN hsym C x y m.length (Nat.le_refl _)
  have hle := clI_le m.length x
  rw [Nat.min_eq_right hle, Nat.min_eq_right (clI_le _ _)] at he
  rw [show ((cN (sy m) C (clI m.length (max y (clI m.length x))) : Nat) : Int) - (cN (sy m) C (clI m.length x) : Nat) = (ctR m C x y m.length : Nat) by omega] at hc
  have hr := Rank_in hw s C h1 (hpow C h1) x (by omega) (by omega)
  rw [cP_cN (fun x hx => (hsym x hx).1) (by omega) _ hle, Int.toNat_natCast]
  exact ⟨hc, hr⟩
end
end Go.Proofs.Ytkfjldkememadaa.AM
