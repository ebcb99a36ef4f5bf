
/- Chapter 11's document, plainly: bytes, runes, names, entities. No condition. -/
import Derived.Test.YtnijpeeehnnipaaXS
set_option linter.unusedVariables false
set_option linter.unusedSimpArgs false
namespace Go.Proofs.Ytnijpeeehnnipaa.AM
open Go Go.RowKit

abbrev Str := List UInt8
def byI (x : Int) : UInt8 := UInt8.ofNat x.toNat
def pointF (c : Int) : Bool := decide (0 ≤ c) && decide (c ≤ 1114111) && (decide (c < 55296) || decide (57343 < c))
def utfF (c : Int) : Str :=
  if pointF c = false then []
  else if c ≤ 127 then [byI c]
  else if c ≤ 2047 then [byI (192 + c / 64), byI (128 + c % 64)]
  else if c ≤ 65535 then [byI (224 + c / 4096), byI (128 + c % 4096 / 64), byI (128 + c % 64)]
  else [byI (240 + c / 262144), byI (128 + c % 262144 / 4096), byI (128 + c % 4096 / 64), byI (128 + c % 64)]
theorem utfF_len (c : Int) : (utfF c).length ≤ 4 := by
  unfold utfF
  split
  · simp
  · split
    · simp
    · split
      · simp
      · split <;> simp
def allowF (c : Int) : Bool := decide (c = 9) || decide (c = 10) || decide (c = 13) || (decide (32 ≤ c) && decide (c ≤ 55295)) || (decide (57344 ≤ c) && decide (c ≤ 65533)) || (decide (65536 ≤ c) && decide (c ≤ 1114111))
def lessN (n : Nat) : Int := if n = 2 then 192 else if n = 3 then 224 else if n = 4 then 240 else 0
def codeN (s : Str) (at_ n : Nat) : Nat → Int
  | 0 => 0
  | i + 1 => if i = 0 then (bt s at_ : Int) - lessN n else codeN s at_ n i * 64 + bt s (at_ + i) - 128
theorem codeN_bd (s : Str) (at_ n : Nat) : ∀ i, i ≤ 4 → -4000000000 ≤ codeN s at_ n i ∧ codeN s at_ n i ≤ 4000000000 := by
  have h0 := bt_le s at_
  have hl : 0 ≤ lessN n ∧ lessN n ≤ 240 := by unfold lessN; split <;> (try split) <;> (try split) <;> omega
  have e1 : codeN s at_ n 1 = (bt s at_ : Int) - lessN n := rfl
  have h1 := bt_le s (at_ + 1)
  have h2 := bt_le s (at_ + 2)
  have h3 := bt_le s (at_ + 3)
  have e2 : codeN s at_ n 2 = codeN s at_ n 1 * 64 + bt s (at_ + 1) - 128 := rfl
  have e3 : codeN s at_ n 3 = codeN s at_ n 2 * 64 + bt s (at_ + 2) - 128 := rfl
  have e4 : codeN s at_ n 4 = codeN s at_ n 3 * 64 + bt s (at_ + 3) - 128 := rfl
  have e0 : codeN s at_ n 0 = 0 := rfl
  intro i hi
  match i, hi with
  | 0, _ => omega
  | 1, _ => omega
  | 2, _ => omega
  | 3, _ => omega
  | 4, _ => omega
def runeG (s : Str) (at_ : Nat) : Nat → Nat → Int × Nat
  | 0, _ => (-1, 0)
  | f + 1, n => if n + at_ ≤ s.length then (if utfF (codeN s at_ n n) ≠ [] ∧ utfF (codeN s at_ n n) = (s.drop at_).take n then (codeN s at_ n n, n) else runeG s at_ f (n + 1)) else (-1, 0)
def runeF (s : Str) (at_ : Nat) : Int × Nat := if at_ < s.length then runeG s at_ 4 1 else (-1, 0)
theorem runeG_le (s : Str) (at_ : Nat) : ∀ f n, f + n = 5 → (runeG s at_ f n).2 ≤ 4 ∧ ((runeG s at_ f n).2 ≠ 0 → (runeG s at_ f n).2 + at_ ≤ s.length)
  | 0, n, h => by simp [runeG]
  | f + 1, n, h => by
    rw [runeG]
    split
    · split
      · simp; omega
      · exact runeG_le s at_ f (n + 1) (by omega)
    · simp
theorem runeG_bd (s : Str) (at_ : Nat) : ∀ f n, f + n = 5 → -4000000000 ≤ (runeG s at_ f n).1 ∧ (runeG s at_ f n).1 ≤ 4000000000
  | 0, n, h => by simp [runeG]
  | f + 1, n, h => by
    rw [runeG]
    split
    · split
      · exact codeN_bd s at_ n n (by omega)
      · exact runeG_bd s at_ f (n + 1) (by omega)
    · simp
theorem runeF_le (s : Str) (at_ : Nat) : (runeF s at_).2 ≤ 4 ∧ ((runeF s at_).2 ≠ 0 → (runeF s at_).2 + at_ ≤ s.length) := by
  unfold runeF
  split
  · exact runeG_le s at_ 4 1 rfl
  · simp
theorem runeF_bd (s : Str) (at_ : Nat) : -4000000000 ≤ (runeF s at_).1 ∧ (runeF s at_).1 ≤ 4000000000 := by
  unfold runeF
  split
  · exact runeG_bd s at_ 4 1 rfl
  · simp
def validG (s : Str) : Nat → Nat → Bool
  | 0, _ => true
  | f + 1, at_ => if at_ < s.length then (if (runeF s at_).2 = 0 ∨ allowF (runeF s at_).1 = false then false else validG s f (at_ + (runeF s at_).2)) else true
def validF (s : Str) : Bool := validG s s.length 0
theorem validG_more (s : Str) : ∀ f at_, s.length ≤ f + at_ → validG s f at_ = validG s (f + 1) at_
  | 0, at_, h => by rw [validG, validG, if_neg (by omega)]
  | f + 1, at_, h => by
    rw [validG]
    conv => rhs; rw [validG]
    by_cases h1 : at_ < s.length
    · rw [if_pos h1, if_pos h1]
      by_cases h2 : (runeF s at_).2 = 0 ∨ allowF (runeF s at_).1 = false
      · rw [if_pos h2, if_pos h2]
      · rw [if_neg h2, if_neg h2]
        exact validG_more s f _ (by omega)
    · rw [if_neg h1, if_neg h1]
def spaceF (b : UInt8) : Bool := decide (b.toNat = 32) || decide (b.toNat = 9) || decide (b.toNat = 10) || decide (b.toNat = 13)
def skipF (s : Str) (at_ : Nat) : Nat := at_ + ((s.drop at_).takeWhile spaceF).length
def firstF (b : UInt8) : Bool := (decide (97 ≤ b.toNat) && decide (b.toNat ≤ 122)) || (decide (65 ≤ b.toNat) && decide (b.toNat ≤ 90)) || decide (b.toNat = 95)
def moreF (b : UInt8) : Bool := (decide (48 ≤ b.toNat) && decide (b.toNat ≤ 57)) || decide (b.toNat = 45) || decide (b.toNat = 46)
def nameF (s : Str) (at_ : Nat) : Nat := match s.drop at_ with
  | [] => at_
  | b :: l => if firstF b then at_ + 1 + (l.takeWhile (fun c => firstF c || moreF c)).length else at_
theorem tw_le {p : UInt8 → Bool} : ∀ l : Str, (l.takeWhile p).length ≤ l.length
  | [] => by simp
  | a :: l => by
    rw [List.takeWhile_cons]
    split
    · simpa using tw_le l
    · simp
theorem skipF_le (s : Str) {at_ : Nat} (h : at_ ≤ s.length) : at_ ≤ skipF s at_ ∧ skipF s at_ ≤ s.length := by
  have := tw_le (p := spaceF) (s.drop at_)
  rw [List.length_drop] at this
  unfold skipF; omega
theorem nameF_le (s : Str) {at_ : Nat} (h : at_ ≤ s.length) : at_ ≤ nameF s at_ ∧ nameF s at_ ≤ s.length := by
  unfold nameF
  cases hd : s.drop at_ with
  | nil => simp [h]
  | cons b l =>
    have hl := congrArg List.length hd
    rw [List.length_drop, List.length_cons] at hl
    have := tw_le (p := fun c => firstF c || moreF c) l
    simp only
    split <;> omega
def digF (b : Nat) : Int := if 65 ≤ b ∧ b ≤ 70 then (b : Int) - 65 + 10 else if 97 ≤ b ∧ b ≤ 102 then (b : Int) - 97 + 10 else if 48 ≤ b ∧ b ≤ 57 then (b : Int) - 48 else 99
def numG (s : Str) (at_ : Nat) (base : Int) : Nat → Nat → Int → Int × Nat
  | 0, _, _ => (0, 0)
  | f + 1, k, n => if s.length ≤ at_ + k then (0, 0) else if bt s (at_ + k) = 59 ∧ 0 < k then (n, k) else if base ≤ digF (bt s (at_ + k)) then (0, 0) else numG s at_ base f (k + 1) (n * base + digF (bt s (at_ + k)))
def numF (s : Str) (at_ : Nat) (base : Int) : Int × Nat := numG s at_ base 9 0 0
def bgnF (s : Str) (at_ : Nat) (t : Str) : Bool := decide (at_ + t.length ≤ s.length) && decide ((s.drop at_).take t.length = t)
end Go.Proofs.Ytnijpeeehnnipaa.AM
