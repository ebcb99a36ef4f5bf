
/- The document's answers for rows of bits: same, bytes, read. No condition but lengths that fit. -/
import Derived.Test.YtebegdnebjjnmaaF7
set_option linter.unusedVariables false
set_option linter.unusedSimpArgs false
set_option maxRecDepth 20000
namespace Go.Proofs.Ytebegdnebjjnmaa.AM
open Go Go.RowKit

theorem byteAt_over (p : List Bool) (k : Nat) (h : p.length ≤ 8 * k) : byteAt p k = 0 := by
  unfold byteAt; rw [List.drop_of_length_le h]; rfl
theorem byteAt_snoc (p : List Bool) (b : Bool) (k : Nat) : byteAt (p ++ [b]) k = if p.length / 8 = k then byteAt p k + 2 ^ (p.length % 8) * b.toNat else byteAt p k := by
  by_cases h : 8 * k ≤ p.length
  · unfold byteAt
    rw [List.drop_append_of_le_length h]
    split
    · rename_i h1
      rw [List.take_of_length_le (l := p.drop (8 * k) ++ [b]) (by simp; omega), List.take_of_length_le (l := p.drop (8 * k)) (by simp; omega), natOf_append]
      rw [List.length_drop, show p.length - 8 * k = p.length % 8 from by omega]
      simp [natOf]
    · rename_i h1
      rw [List.take_append_of_le_length (by simp; omega)]
  · rw [if_neg (by omega), byteAt_over p k (by omega)]
    by_cases h1 : p.length + 1 ≤ 8 * k
    · rw [byteAt_over _ _ (by simpa using h1)]
    · omega
theorem byteAt_part (p : List Bool) : byteAt p (p.length / 8) < 2 ^ (p.length % 8) := by
  have := natOf_lt ((p.drop (8 * (p.length / 8))).take 8)
  rwa [List.length_take, List.length_drop, show min 8 (p.length - 8 * (p.length / 8)) = p.length % 8 from by omega] at this
def rowB (nb : Nat) (p : List Bool) : List IV := (List.range nb).map fun k => .int .u8 (byteAt p k)
theorem rowB_len (nb : Nat) (p : List Bool) : (rowB nb p).length = nb := by simp [rowB]
theorem rowB_get {nb k : Nat} (p : List Bool) (h : k < nb) : (rowB nb p)[k]? = some (.int .u8 (byteAt p k)) := by
  rw [rowB, List.getElem?_map, List.getElem?_range h]; rfl
theorem rowB_false (nb : Nat) (p : List Bool) : rowB nb (p ++ [false]) = rowB nb p := by
  unfold rowB
  apply List.map_congr_left
  intro k _
  rw [byteAt_snoc]; split <;> simp
theorem rowB_true (nb : Nat) (p : List Bool) (h : p.length / 8 < nb) : rowB nb (p ++ [true]) = (rowB nb p).set (p.length / 8) (.int .u8 ((byteAt p (p.length / 8) + 2 ^ (p.length % 8) : Nat) : Int)) := by
  apply List.ext_getElem?
  intro k
  by_cases hk : k < nb
  · rw [rowB_get _ hk, List.getElem?_set, byteAt_snoc]
    by_cases e : p.length / 8 = k
    · rw [if_pos e, if_pos e, if_pos (by rw [rowB_len]; omega), e]; simp
    · rw [if_neg e, if_neg e, rowB_get _ hk]
  · rw [List.getElem?_eq_none (by rw [rowB_len]; omega), List.getElem?_eq_none (by rw [List.length_set, rowB_len]; omega)]
theorem rowB_nil (nb : Nat) : rowB nb [] = List.replicate nb (.int .u8 0) := by
  unfold rowB
  rw [List.eq_replicate_iff]
  refine ⟨by simp, fun b hb => ?_⟩
  obtain ⟨k, _, rfl⟩ := List.mem_map.1 hb
  rw [byteAt_over [] k (by simp)]; rfl
theorem rowB_full (l : List Bool) : rowB ((l.length + 7) / 8) l = bytesI l := rfl
theorem add_byte (p : List Bool) : IntKind.u8.wrap ((byteAt p (p.length / 8) : Int) + IntKind.u8.wrap (1 * 2 ^ min ((p.length : Int) % 8).toNat 8)) = ((byteAt p (p.length / 8) + 2 ^ (p.length % 8) : Nat) : Int) := by
  have h1 := byteAt_part p
  have h2 : (2 : Nat) ^ (p.length % 8) ≤ 2 ^ 7 := Nat.pow_le_pow_right (by decide) (by omega)
  rw [show ((p.length : Int) % 8).toNat = p.length % 8 from by omega, Nat.min_eq_left (by omega), Int.one_mul]
  rw [show ((2 : Int) ^ (p.length % 8)) = ((2 ^ (p.length % 8) : Nat) : Int) from by simp]
  rw [show IntKind.u8.wrap ((2 ^ (p.length % 8) : Nat) : Int) = ((2 ^ (p.length % 8) : Nat) : Int) from wrapB ⟨by omega, by omega⟩, wrapB ⟨by omega, by omega⟩]; omega

theorem ba_loop (b : ByteArray) : ∀ (n i : Nat) (r : List UInt8), b.size - i = n → ByteArray.toList.loop b i r = r.reverse ++ b.data.toList.drop i := by
  have hs : b.data.toList.length = b.size := Array.length_toList
  intro n
  induction n with
  | zero =>
    intro i r h
    unfold ByteArray.toList.loop
    rw [if_neg (by omega), List.drop_of_length_le (by omega), List.append_nil]
  | succ n ih =>
    intro i r h
    unfold ByteArray.toList.loop
    have hi : i < b.data.size := by have : b.data.size = b.size := rfl; omega
    have hg : b.get! i = b.data.toList[i]'(by omega) := by
      show b.data[i]! = _
      rw [getElem!_pos b.data i hi, Array.getElem_toList]
    rw [if_pos (by omega), ih (i + 1) _ (by omega), List.drop_eq_getElem_cons (show i < b.data.toList.length by omega), hg]
    simp only [List.reverse_cons, List.append_assoc, List.singleton_append]
theorem ba_toList (b : ByteArray) : b.toList = b.data.toList := by
  unfold ByteArray.toList
  rw [ba_loop b _ 0 [] rfl]; rfl
theorem readOk_size {n : Int} {s : ByteArray} (h : readOk n s = true) : (s.size : Int) = (n + 7) / 8 := by
  unfold readOk at h
  simp only [Bool.and_eq_true, decide_eq_true_eq, beq_iff_eq] at h
  obtain ⟨⟨h0, h1⟩, h2⟩ := h
  have := congrArg List.length h2
  rw [ba_toList, ba_toList, Array.length_toList, Array.length_toList] at this
  have e : (bytesS (readB s n.toNat)).data.size = (n.toNat + 7) / 8 := by simp [bytesS, readB_len]
  rw [e] at this
  have e2 : s.data.size = s.size := rfl
  omega

end Go.Proofs.Ytebegdnebjjnmaa.AM
