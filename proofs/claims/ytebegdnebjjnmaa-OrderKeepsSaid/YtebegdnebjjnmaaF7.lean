
/- The laws BitsJoins and BitsCount, as calls. No condition. -/
import Derived.Test.YtebegdnebjjnmaaF6
set_option linter.unusedVariables false
set_option linter.unusedSimpArgs false
set_option maxRecDepth 20000
namespace Go.Proofs.Ytebegdnebjjnmaa.AM
open Go Go.RowKit

/-- How many of some bits are 1, as the program tells it. -/
def onesAt (l : List Bool) (a b : Int) : Int := (cnt l (min (max b (min (max a 0) l.length)) l.length).toNat : Int) - cnt l (min (max a 0) l.length).toNat
theorem onesAt_in (l : List Bool) {a b : Int} (h0 : 0 ≤ a) (h1 : a ≤ b) (h2 : b ≤ l.length) : onesAt l a b = (cnt l b.toNat : Int) - cnt l a.toNat := by
  unfold onesAt
  rw [show min (max b (min (max a 0) (l.length : Int))) (l.length : Int) = b from by omega, show min (max a 0) (l.length : Int) = a from by omega]
theorem onesAt_range (l : List Bool) (a b : Int) : 0 ≤ onesAt l a b ∧ onesAt l a b ≤ l.length := by
  unfold onesAt
  have h1 := cnt_le l (min (max b (min (max a 0) (l.length : Int))) (l.length : Int)).toNat
  have h2 := cnt_mono l (show (min (max a 0) (l.length : Int)).toNat ≤ (min (max b (min (max a 0) (l.length : Int))) (l.length : Int)).toNat by omega)
  omega
theorem cnt_full (l : List Bool) : cnt l l.length = l.count true := by rw [cnt, List.take_length]
theorem cnt_front (a b : List Bool) : cnt (a ++ b) a.length = a.count true := by rw [cnt, List.take_append_of_le_length (Nat.le_refl _), List.take_length]
theorem ones_all (l : List Bool) : onesAt l 0 l.length = (l.count true : Int) := by
  rw [onesAt_in l (by omega) (by omega) (by omega), Int.toNat_natCast, cnt_full, show ((0 : Int)).toNat = 0 from rfl, cnt_zero]; omega
theorem join1 (a b : List Bool) : onesAt (a ++ b) 0 ((a.length : Int) + b.length) = onesAt a 0 a.length + onesAt b 0 b.length := by
  have h := ones_all (a ++ b)
  rw [List.length_append, Int.natCast_add] at h
  rw [h, ones_all, ones_all, List.count_append]; omega
theorem join2 (a b : List Bool) : onesAt (a ++ b) a.length ((a.length : Int) + b.length) = onesAt b 0 b.length := by
  have h := cnt_full (a ++ b)
  rw [List.length_append, List.count_append] at h
  rw [onesAt_in (a ++ b) (by omega) (by omega) (by simp), ones_all, Int.toNat_natCast, cnt_front, show ((a.length : Int) + b.length).toNat = a.length + b.length from by omega, h]; omega

@[go_sem] theorem takeMapAll {α : Type} (l : List α) (f : α → IV) {n : Nat} (h : l.length ≤ n) : (l.map f).take n = l.map f := List.take_of_length_le (by simpa using h)

end Go.Proofs.Ytebegdnebjjnmaa.AM
