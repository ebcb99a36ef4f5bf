
/- Chapter 12's document: what Lex gives is short. -/
import Derived.Test.YtnijpeeehnnipaaXE
set_option linter.unusedVariables false
set_option linter.unusedSimpArgs false
namespace Go.Proofs.Ytnijpeeehnnipaa.AM
open Go Go.RowKit

theorem entF_len (s : Str) (a : Nat) : (entF s a).1.length ≤ 4 := by
  unfold entF
  repeat' split
  all_goals first | exact utfF_len _ | decide
theorem decG_len (s : Str) : ∀ f i t, (decG s f i t).1.length ≤ t.length + 4 * f
  | 0, i, t => by simp [decG]
  | f + 1, i, t => by
    rw [decG]
    split
    · split
      · split
        · simp
        · have := decG_len s f (i + (entF s i).2) (t ++ (entF s i).1)
          have h := entF_len s i
          rw [List.length_append] at this
          omega
      · have := decG_len s f (i + 1) (t ++ (s.drop i).take 1)
        have h : ((s.drop i).take 1).length ≤ 1 := List.length_take_le _ _
        rw [List.length_append] at this
        omega
    · simp
theorem decF_len (s : Str) : (decF s).1.length ≤ 4 * s.length := by
  have := decG_len s s.length 0 []
  simpa [decF] using this
def Vals (n : Nat) (l : List Tk) : Prop := ∀ t ∈ l, t.val.length ≤ n
theorem attrF_val (s : Str) (a : Nat) : (attrF s a).1.val.length ≤ 4 * s.length := by
  unfold attrF
  dsimp only
  repeat' split
  all_goals first
    | exact Nat.zero_le _
    | (refine Nat.le_trans (decF_len _) ?_; exact Nat.mul_le_mul_left _ (sub_len _ _ _))
theorem Vals.add {n : Nat} {l l' : List Tk} (h : Vals n l) (h' : Vals n l') : Vals n (l ++ l') := fun t ht => by
  rcases List.mem_append.1 ht with h1 | h1
  · exact h t h1
  · exact h' t h1
theorem Vals.one {n : Nat} {t : Tk} (h : t.val.length ≤ n) : Vals n [t] := fun x hx => by rw [List.mem_singleton.1 hx]; exact h
theorem Vals.nil (n : Nat) : Vals n [] := fun x hx => by cases hx
theorem tagG_vals (s : Str) : ∀ f last out, Vals (4 * s.length) out → Vals (4 * s.length) (tagG s f last out).1
  | 0, last, out, h => Vals.nil _
  | f + 1, last, out, h => by
    rw [tagG]
    split
    · exact h.add (Vals.one (Nat.zero_le _))
    · split
      · exact h.add (Vals.one (Nat.zero_le _))
      · split
        · exact Vals.nil _
        · exact tagG_vals s f _ _ (h.add (Vals.one (attrF_val s last)))
theorem pieceF_vals (s : Str) (a : Nat) : Vals (4 * s.length) (pieceF s a).1 := by
  have e : ∀ x y, (sub s x y).length ≤ 4 * s.length := fun x y => by have := sub_len s x y; omega
  unfold pieceF
  split
  · split
    · exact Vals.nil _
    · exact Vals.one (e _ _)
  · split
    · split
      · exact Vals.nil _
      · exact Vals.one (e _ _)
    · split
      · split
        · exact Vals.nil _
        · exact Vals.one (Nat.zero_le _)
      · split
        · unfold tagF
          split
          · exact Vals.nil _
          · exact tagG_vals s _ _ _ (Vals.one (Nat.zero_le _))
        · dsimp only
          exact Vals.one (Nat.le_trans (decF_len _) (Nat.mul_le_mul_left _ (sub_len _ _ _)))
theorem lexG_vals (s : Str) : ∀ f a out, Vals (4 * s.length) out → Vals (4 * s.length) (lexG s f a out).1
  | 0, a, out, h => h
  | f + 1, a, out, h => by
    rw [lexG]
    split
    · split
      · exact Vals.nil _
      · exact lexG_vals s f _ _ (h.add (pieceF_vals s a))
    · exact h
theorem tagG_cnt (s : Str) : ∀ f last out n, last ≤ s.length → (tagG s f last out).2 = true → Ends (tagG s f last out).1 n → (tagG s f last out).1.length + last ≤ out.length + n
  | 0, last, out, n, h, h2, h3 => by cases h2
  | f + 1, last, out, n, h, h2, h3 => by
    have l1 := skipF_le s h
    rw [tagG] at h2 h3 ⊢
    split at h2
    · rename_i c
      rw [if_pos c] at h3 ⊢
      obtain ⟨l', t, e1, e2⟩ := h3
      obtain ⟨rfl, e3⟩ := List.append_inj' e1 rfl
      obtain rfl : _ = t := by simpa using e3
      dsimp only at e2
      rw [List.length_append, List.length_singleton]; omega
    · rename_i c
      rw [if_neg c] at h3 ⊢
      split at h2
      · rename_i c2
        rw [if_pos c2] at h3 ⊢
        obtain ⟨l', t, e1, e2⟩ := h3
        obtain ⟨rfl, e3⟩ := List.append_inj' e1 rfl
        obtain rfl : _ = t := by simpa using e3
        dsimp only at e2
        rw [List.length_append, List.length_singleton]; omega
      · rename_i c2
        rw [if_neg c2] at h3 ⊢
        split at h2
        · cases h2
        · rename_i c3
          rw [if_neg c3] at h3 ⊢
          obtain ⟨to, e1, e2, e3⟩ := attrF_to h (by cases hx : (attrF s last).2 with
            | true => rfl
            | false => exact absurd hx c3)
          rw [e1, Int.toNat_natCast] at h2 h3 ⊢
          have := tagG_cnt s f to _ n e3 h2 h3
          rw [List.length_append, List.length_singleton] at this
          omega
theorem Ends.uniq {l : List Tk} {a b : Nat} (h : Ends l a) (h' : Ends l b) : a = b := by rw [← h.last, h'.last]
theorem one_cnt {t : Tk} {a n : Nat} (h : a < n) : [t].length + a ≤ n := by simp only [List.length_singleton]; omega
theorem pieceF_cnt {s : Str} {a n : Nat} (ha : a < s.length) (h : (pieceF s a).2 = true) (hn : Ends (pieceF s a).1 n) : (pieceF s a).1.length + a ≤ n := by
  obtain ⟨m, h1, h2, h3⟩ := pieceF_ends ha h
  obtain rfl := hn.uniq h1
  clear h1
  unfold pieceF at h hn ⊢
  split
  · split
    · simp only [List.length_nil]; omega
    · exact one_cnt h2
  · rename_i c1
    rw [if_neg c1] at h hn
    split
    · split
      · simp only [List.length_nil]; omega
      · exact one_cnt h2
    · rename_i c2
      rw [if_neg c2] at h hn
      split
      · split
        · simp only [List.length_nil]; omega
        · exact one_cnt h2
      · rename_i c3
        rw [if_neg c3] at h hn
        split
        · rename_i c4
          rw [if_pos c4] at h hn
          unfold tagF at h hn ⊢
          have l1 : a + 1 ≤ s.length := bgnF_le c4
          have l2 := nameF_le s l1
          split
          · simp only [List.length_nil]; omega
          · rename_i c5
            rw [if_neg c5] at h hn
            have := tagG_cnt s _ _ _ _ l2.2 h hn
            rw [List.length_singleton] at this
            omega
        · exact one_cnt h2
theorem lexG_cnt (s : Str) : ∀ f a out, a ≤ s.length → out.length ≤ a → (lexG s f a out).1.length ≤ s.length
  | 0, a, out, h, h2 => by rw [lexG]; exact Nat.le_trans h2 h
  | f + 1, a, out, h, h2 => by
    rw [lexG]
    split
    · rename_i c
      split
      · exact Nat.zero_le _
      · rename_i c2
        have h5 : (pieceF s a).2 = true := by
          cases hx : (pieceF s a).2 with
          | true => rfl
          | false => exact absurd (.inl hx) c2
        obtain ⟨n, q1, q2, q3⟩ := pieceF_ends c h5
        have := pieceF_cnt c h5 q1
        rw [q1.last]
        exact lexG_cnt s f n _ q3 (by rw [List.length_append]; omega)
    · exact Nat.le_trans h2 h
theorem lexF_shrt (s : Str) : Shrt (lexF s).1 ∧ (lexF s).1.length ≤ 65536 := by
  unfold lexF
  have nl : Shrt ([] : List Tk) := ⟨Nat.zero_le _, fun t h => by cases h⟩
  split
  · exact ⟨nl, Nat.zero_le _⟩
  · split
    · exact ⟨nl, Nat.zero_le _⟩
    · split
      · exact ⟨nl, Nat.zero_le _⟩
      · have h1 := lexG_cnt s s.length 0 [] (Nat.zero_le _) (Nat.le_refl _)
        have h2 := lexG_vals s s.length 0 [] (Vals.nil _)
        exact ⟨⟨Nat.le_trans h1 (by omega), fun t ht => Nat.le_trans (h2 t ht) (by omega)⟩, Nat.le_trans h1 (by omega)⟩
end Go.Proofs.Ytnijpeeehnnipaa.AM
