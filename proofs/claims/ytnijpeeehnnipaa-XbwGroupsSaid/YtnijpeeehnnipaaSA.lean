
/- Chapter 7: the order of suffixes, plainly. Chapter 7: suffixes by triples, plainly. Chapter 7: merging two orders of suffixes, plainly. Chapter 7: from a sample's order to the whole one, plainly. Chapter 7: the order that end makes is the order of suffixes, plainly. -/
import Derived.Test.YtnijpeeehnnipaaAD
import Derived.Test.YtnijpeeehnnipaaQC

set_option linter.unusedVariables false
set_option linter.unusedSimpArgs false
namespace Go.Proofs.Ytnijpeeehnnipaa.AM

def cmpL : List Int → List Int → Int
  | [], [] => 0
  | [], _ :: _ => -1
  | _ :: _, [] => 1
  | x :: a, y :: b => if x < y then -1 else if y < x then 1 else cmpL a b
def wl : List Int → List Int → Bool
  | _, [] => false
  | [], _ :: _ => true
  | x :: a, y :: b => if x < y then true else if y < x then false else wl a b
theorem wl_irr : ∀ a, wl a a = false
  | [] => rfl
  | x :: a => by rw [wl, if_neg (Int.lt_irrefl x), if_neg (Int.lt_irrefl x)]; exact wl_irr a
theorem wl_trans : ∀ {a b c}, wl a b = true → wl b c = true → wl a c = true
  | _, _, [], _, h => by simp [wl] at h
  | _, [], _ :: _, h, _ => by cases ‹List Int› <;> simp [wl] at h
  | [], _ :: _, _ :: _, _, _ => rfl
  | x :: a, y :: b, z :: c, h, k => by
    simp only [wl] at h k ⊢
    by_cases h1 : x < y
    · by_cases k1 : y < z
      · rw [if_pos (by omega)]
      · by_cases k2 : z < y
        · rw [if_neg k1, if_pos k2] at k; cases k
        · rw [if_pos (by omega)]
    · by_cases h2 : y < x
      · rw [if_neg h1, if_pos h2] at h; cases h
      · rw [if_neg h1, if_neg h2] at h
        obtain rfl : x = y := by omega
        by_cases k1 : x < z
        · rw [if_pos k1]
        · by_cases k2 : z < x
          · rw [if_neg k1, if_pos k2] at k; cases k
          · rw [if_neg k1, if_neg k2] at k
            rw [if_neg k1, if_neg k2]; exact wl_trans h k
theorem wl_tri : ∀ a b, wl a b = true ∨ a = b ∨ wl b a = true
  | [], [] => .inr (.inl rfl)
  | [], _ :: _ => .inl rfl
  | _ :: _, [] => .inr (.inr rfl)
  | x :: a, y :: b => by
    simp only [wl]
    rcases Int.lt_trichotomy x y with h | h | h
    · exact .inl (by rw [if_pos h])
    · subst h
      rw [if_neg (Int.lt_irrefl x), if_neg (Int.lt_irrefl x), if_neg (Int.lt_irrefl x), if_neg (Int.lt_irrefl x)]
      rcases wl_tri a b with g | g | g
      · exact .inl g
      · exact .inr (.inl (by rw [g]))
      · exact .inr (.inr g)
    · exact .inr (.inr (by rw [if_pos h]))
end Go.Proofs.Ytnijpeeehnnipaa.AM

set_option linter.unusedVariables false
set_option linter.unusedSimpArgs false
namespace Go.Proofs.Ytnijpeeehnnipaa.AM

end Go.Proofs.Ytnijpeeehnnipaa.AM

set_option linter.unusedVariables false
set_option linter.unusedSimpArgs false
namespace Go.Proofs.Ytnijpeeehnnipaa.AM

end Go.Proofs.Ytnijpeeehnnipaa.AM

set_option linter.unusedVariables false
set_option linter.unusedSimpArgs false
namespace Go.Proofs.Ytnijpeeehnnipaa.AM

end Go.Proofs.Ytnijpeeehnnipaa.AM

set_option linter.unusedVariables false
set_option linter.unusedSimpArgs false
namespace Go.Proofs.Ytnijpeeehnnipaa.AM

theorem getD_el {l : List Int} {i : Nat} (h : i < l.length) : l.getD i 0 = l[i] := by simp [List.getD, List.getElem?_eq_getElem h]
end Go.Proofs.Ytnijpeeehnnipaa.AM
