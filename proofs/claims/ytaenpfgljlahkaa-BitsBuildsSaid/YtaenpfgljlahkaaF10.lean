/- The document's answers for rows of bits: same, bytes, read. No condition but lengths that fit. -/
import Derived.Test.YtaenpfgljlahkaaF7
set_option linter.unusedVariables false
set_option linter.unusedSimpArgs false
set_option maxRecDepth 20000
namespace Go.Proofs.Ytaenpfgljlahkaa.AM
open Go Go.RowKit

theorem byteAt_over (p : List Bool) (k : Nat) (h : p.length ≤ 8 * k) : byteAt p k = 0 := by
  unfold byteAt; rw [List.drop_of_length_le h]; rfl
theorem byteAt_snoc (p : List Bool) (b : Bool) (k : Nat) : byteAt (p ++ [b]) k = if p.length / 8 = k then byteAt p k + 2 ^ (p.length % 8) * b.toNat else byteAt p k := by
  by_cases h : 8 * k ≤ p.length
  · unfold byteAt
    rw [List.drop_append_of_le_length h]
    split
    · rename_i h1
      rw [List.take_of_length_le (l := p.drop (8 * k) ++ [b]) (by simp; omega), List.take_of_length_le (l := p.drop (8 * k)) (by simp; omega), natOf_append]
      rw [List.length_drop, show p.length - 8 * k = p.length % 8 from by omega]
      simp [natOf]
    · rename_i h1
      rw [List.take_append_of_le_length (by simp; omega)]
  · rw [if_neg (by omega), byteAt_over p k (by omega)]
    by_cases h1 : p.length + 1 ≤ 8 * k
    · rw [byteAt_over _ _ (by simpa using h1)]
    · omega
theorem byteAt_part (p : List Bool) : byteAt p (p.length / 8) < 2 ^ (p.length % 8) := by
  have := natOf_lt ((p.drop (8 * (p.length / 8))).take 8)
  rwa [List.length_take, List.length_drop, show min 8 (p.length - 8 * (p.length / 8)) = p.length % 8 from by omega] at this
def rowB (nb : Nat) (p : List Bool) : List IV := (List.range nb).map fun k => .int .u8 (byteAt p k)
theorem rowB_len (nb : Nat) (p : List Bool) : (rowB nb p).length = nb := by simp [rowB]
theorem rowB_get {nb k : Nat} (p : List Bool) (h : k < nb) : (rowB nb p)[k]? = some (.int .u8 (byteAt p k)) := by
  rw [rowB, List.getElem?_map, List.getElem?_range h]; rfl
theorem rowB_false (nb : Nat) (p : List Bool) : rowB nb (p ++ [false]) = rowB nb p := by
  unfold rowB
  apply List.map_congr_left
  intro k _
  rw [byteAt_snoc]; split <;> simp
theorem rowB_true (nb : Nat) (p : List Bool) (h : p.length / 8 < nb) : rowB nb (p ++ [true]) = (rowB nb p).set (p.length / 8) (.int .u8 ((byteAt p (p.length / 8) + 2 ^ (p.length % 8) : Nat) : Int)) := by
  apply List.ext_getElem?
  intro k
  by_cases hk : k < nb
  · rw [rowB_get _ hk, List.getElem?_set, byteAt_snoc]
    by_cases e : p.length / 8 = k
    · rw [if_pos e, if_pos e, if_pos (by rw [rowB_len]; omega), e]; simp
    · rw [if_neg e, if_neg e, rowB_get _ hk]
  · rw [List.getElem?_eq_none (by rw [rowB_len]; omega), List.getElem?_eq_none (by rw [List.length_set, rowB_len]; omega)]
theorem rowB_nil (nb : Nat) : rowB nb [] = List.replicate nb (.int .u8 0) := by
  unfold rowB
  rw [List.eq_replicate_iff]
  refine ⟨by simp, fun b hb => ?_⟩
  obtain ⟨k, _, rfl⟩ := List.mem_map.1 hb
  rw [byteAt_over [] k (by simp)]; rfl
theorem rowB_full (l : List Bool) : rowB ((l.length + 7) / 8) l = bytesI l := rfl
theorem add_byte (p : List Bool) : IntKind.u8.wrap ((byteAt p (p.length / 8) : Int) + IntKind.u8.wrap (1 * 2 ^ min ((p.length : Int) % 8).toNat 8)) = ((byteAt p (p.length / 8) + 2 ^ (p.length % 8) : Nat) : Int) := by
  have h1 := byteAt_part p
  have h2 : (2 : Nat) ^ (p.length % 8) ≤ 2 ^ 7 := Nat.pow_le_pow_right (by decide) (by omega)
  rw [show ((p.length : Int) % 8).toNat = p.length % 8 from by omega, Nat.min_eq_left (by omega), Int.one_mul]
  rw [show ((2 : Int) ^ (p.length % 8)) = ((2 ^ (p.length % 8) : Nat) : Int) from by simp]
  rw [show IntKind.u8.wrap ((2 ^ (p.length % 8) : Nat) : Int) = ((2 ^ (p.length % 8) : Nat) : Int) from wrapB ⟨by omega, by omega⟩, wrapB ⟨by omega, by omega⟩]; omega

theorem RefBytes_spec (l : List Bool) (hl : l.length ≤ 100000000000) : PCalls Try.prog 59 [blsV l] (.str (bytesS l)) := by
  refine PCalls.of_aw Try.func59 rfl (by unfold Callable; kernel_rfl) (by kernel_rfl) (by simp [Try.ntmps59]) ?_; rw [Try.ntmps59, Try.results59]; (simp (maxSteps := 1000000) (disch := first | omega | (simp only [List.length_append, List.length_cons, List.length_nil, List.length_map, bitsOf_len, readB_len, Int.natCast_add, Int.natCast_succ, Nat.zero_add, natCast_one, natCast_zero] <;> omega) | fail) only [go_sem])
  (repeat' (first
    | ((first | with_reducible refine aw_seq ?_ | with_reducible refine aw_region (aops_run ?_) | (with_reducible refine aw_regionD (fun _ => .p) mixed ?_ (dops_run ?_); (· kernel_rfl)) | (with_reducible refine aw_regionD (fun _ => .r) mixed ?_ (dops_run ?_); (· kernel_rfl)) | with_reducible refine aw_condK ?_ | with_reducible refine aw_skip ?_ | with_reducible refine aw_ret ?_ | with_reducible refine aw_exit ?_ | with_reducible refine aw_label ?_ | with_reducible refine aw_block ?_ | with_reducible refine aw_scope ?_ | with_reducible refine And.intro ?_ ?_) <;> (try (simp (maxSteps := 1000000) (disch := first | omega | (simp only [List.length_append, List.length_cons, List.length_nil, List.length_map, bitsOf_len, readB_len, Int.natCast_add, Int.natCast_succ, Nat.zero_add, natCast_one, natCast_zero] <;> omega) | fail) only [go_sem])))
    | ((first | with_reducible refine wantK_split (fun h => ?_) (fun h => ?_) | with_reducible refine condK_split (fun h => ?_) (fun h => ?_) | with_reducible refine pickV_split (fun h => ?_) (fun h => ?_)) <;> (try (simp (maxSteps := 1000000) (disch := first | omega | (simp only [List.length_append, List.length_cons, List.length_nil, List.length_map, bitsOf_len, readB_len, Int.natCast_add, Int.natCast_succ, Nat.zero_add, natCast_one, natCast_zero] <;> omega) | fail) only [go_sem] at h)) <;> (try (simp (maxSteps := 1000000) (disch := first | omega | (simp only [List.length_append, List.length_cons, List.length_nil, List.length_map, bitsOf_len, readB_len, Int.natCast_add, Int.natCast_succ, Nat.zero_add, natCast_one, natCast_zero] <;> omega) | fail) only [go_sem, h])))))
  all_goals (try omega)
  have enb : ((l.length : Int) + 7) / 8 = ((l.length + 7) / 8 : Nat) := by omega
  rw [enb]
  (simp (maxSteps := 1000000) (disch := first | omega | (simp only [List.length_append, List.length_cons, List.length_nil, List.length_map, bitsOf_len, readB_len, Int.natCast_add, Int.natCast_succ, Nat.zero_add, natCast_one, natCast_zero] <;> omega) | fail) only [go_sem])
  refine aw_loop (α := List Bool × List Bool) (fun x => ⟨36, sl [(0, .iv (.sl 1 (l.map .bool))), (3, .msl 0 0 ((l.length + 7) / 8) ((l.length + 7) / 8)), (4, .iv (.int .i64 x.1.length))],
    [.row true 5 1 (rowB ((l.length + 7) / 8) x.1)], 0⟩)
    (fun x => x.1 ++ x.2 = l) (fun x => x.2.length) ([], l) (wk_by [0] ?_) rfl ?_
  · (simp (maxSteps := 1000000) (disch := first | omega | (simp only [List.length_append, List.length_cons, List.length_nil, List.length_map, bitsOf_len, readB_len, Int.natCast_add, Int.natCast_succ, Nat.zero_add, natCast_one, natCast_zero] <;> omega) | fail) only [go_sem, rowB_nil])
  rintro ⟨p, q⟩ hI
  dsimp only at hI
  have hlen : p.length + q.length = l.length := by rw [← hI]; simp
  have hrl := rowB_len ((l.length + 7) / 8) p
  cases q with
  | cons b q =>
    rw [List.length_cons] at hlen
    have hget : (l.map IV.bool)[p.length]? = some (.bool b) := by rw [← hI]; simp
    have hold := rowB_get p (show p.length / 8 < (l.length + 7) / 8 by omega)
    have e1 : ((p.length : Int) / 8).toNat = p.length / 8 := by omega
    have e2 := add_byte p
    (repeat' (first
    | ((first | with_reducible refine aw_seq ?_ | with_reducible refine aw_region (aops_run ?_) | (with_reducible refine aw_regionD (fun _ => .p) mixed ?_ (dops_run ?_); (· kernel_rfl)) | (with_reducible refine aw_regionD (fun _ => .r) mixed ?_ (dops_run ?_); (· kernel_rfl)) | with_reducible refine aw_condK ?_ | with_reducible refine aw_skip ?_ | with_reducible refine aw_ret ?_ | with_reducible refine aw_exit ?_ | with_reducible refine aw_label ?_ | with_reducible refine aw_block ?_ | with_reducible refine aw_scope ?_ | with_reducible refine And.intro ?_ ?_) <;> (try (simp (maxSteps := 1000000) (disch := first | omega | (simp only [List.length_append, List.length_cons, List.length_nil, List.length_map, bitsOf_len, readB_len, Int.natCast_add, Int.natCast_succ, Nat.zero_add, natCast_one, natCast_zero] <;> omega) | fail) only [go_sem, hget, hrl, e1, hold, e2])))
    | ((first | with_reducible refine wantK_split (fun h => ?_) (fun h => ?_) | with_reducible refine condK_split (fun h => ?_) (fun h => ?_) | with_reducible refine pickV_split (fun h => ?_) (fun h => ?_)) <;> (try (simp (maxSteps := 1000000) (disch := first | omega | (simp only [List.length_append, List.length_cons, List.length_nil, List.length_map, bitsOf_len, readB_len, Int.natCast_add, Int.natCast_succ, Nat.zero_add, natCast_one, natCast_zero] <;> omega) | fail) only [go_sem] at h)) <;> (try (simp (maxSteps := 1000000) (disch := first | omega | (simp only [List.length_append, List.length_cons, List.length_nil, List.length_map, bitsOf_len, readB_len, Int.natCast_add, Int.natCast_succ, Nat.zero_add, natCast_one, natCast_zero] <;> omega) | fail) only [go_sem, h, hget, hrl, e1, hold, e2])))))
    all_goals (try omega)
    · subst h
      refine ⟨(p ++ [true], q), by simpa using hI, wk_by [0] ?_, by simp⟩
      (simp (maxSteps := 1000000) (disch := first | omega | (simp only [List.length_append, List.length_cons, List.length_nil, List.length_map, bitsOf_len, readB_len, Int.natCast_add, Int.natCast_succ, Nat.zero_add, natCast_one, natCast_zero] <;> omega) | fail) only [go_sem, rowB_true _ p (show p.length / 8 < (l.length + 7) / 8 by omega)])
    · subst h
      refine ⟨(p ++ [false], q), by simpa using hI, wk_by [0] ?_, by simp⟩
      (simp (maxSteps := 1000000) (disch := first | omega | (simp only [List.length_append, List.length_cons, List.length_nil, List.length_map, bitsOf_len, readB_len, Int.natCast_add, Int.natCast_succ, Nat.zero_add, natCast_one, natCast_zero] <;> omega) | fail) only [go_sem, rowB_false])
  | nil =>
    rw [List.append_nil] at hI
    subst hI
    rw [rowB_full] at hrl
    (simp (maxSteps := 1000000) (disch := first | omega | (simp only [List.length_append, List.length_cons, List.length_nil, List.length_map, bitsOf_len, readB_len, Int.natCast_add, Int.natCast_succ, Nat.zero_add, natCast_one, natCast_zero] <;> omega) | fail) only [go_sem, rowB_full])
    (repeat' (first
    | ((first | with_reducible refine aw_seq ?_ | with_reducible refine aw_region (aops_run ?_) | (with_reducible refine aw_regionD (fun _ => .p) mixed ?_ (dops_run ?_); (· kernel_rfl)) | (with_reducible refine aw_regionD (fun _ => .r) mixed ?_ (dops_run ?_); (· kernel_rfl)) | with_reducible refine aw_condK ?_ | with_reducible refine aw_skip ?_ | with_reducible refine aw_ret ?_ | with_reducible refine aw_exit ?_ | with_reducible refine aw_label ?_ | with_reducible refine aw_block ?_ | with_reducible refine aw_scope ?_ | with_reducible refine And.intro ?_ ?_) <;> (try (simp (maxSteps := 1000000) (disch := first | omega | (simp only [List.length_append, List.length_cons, List.length_nil, List.length_map, bitsOf_len, readB_len, Int.natCast_add, Int.natCast_succ, Nat.zero_add, natCast_one, natCast_zero] <;> omega) | fail) only [go_sem, hrl])))
    | ((first | with_reducible refine wantK_split (fun h => ?_) (fun h => ?_) | with_reducible refine condK_split (fun h => ?_) (fun h => ?_) | with_reducible refine pickV_split (fun h => ?_) (fun h => ?_)) <;> (try (simp (maxSteps := 1000000) (disch := first | omega | (simp only [List.length_append, List.length_cons, List.length_nil, List.length_map, bitsOf_len, readB_len, Int.natCast_add, Int.natCast_succ, Nat.zero_add, natCast_one, natCast_zero] <;> omega) | fail) only [go_sem] at h)) <;> (try (simp (maxSteps := 1000000) (disch := first | omega | (simp only [List.length_append, List.length_cons, List.length_nil, List.length_map, bitsOf_len, readB_len, Int.natCast_add, Int.natCast_succ, Nat.zero_add, natCast_one, natCast_zero] <;> omega) | fail) only [go_sem, h, hrl])))))
    all_goals (try omega)
    (simp (maxSteps := 1000000) (disch := first | omega | (simp only [List.length_append, List.length_cons, List.length_nil, List.length_map, bitsOf_len, readB_len, Int.natCast_add, Int.natCast_succ, Nat.zero_add, natCast_one, natCast_zero] <;> omega) | fail) only [go_sem, List.take_of_length_le (Nat.le_of_eq hrl), bytesOf?_bytesI])
    (repeat' (first
    | ((first | with_reducible refine aw_seq ?_ | with_reducible refine aw_region (aops_run ?_) | (with_reducible refine aw_regionD (fun _ => .p) mixed ?_ (dops_run ?_); (· kernel_rfl)) | (with_reducible refine aw_regionD (fun _ => .r) mixed ?_ (dops_run ?_); (· kernel_rfl)) | with_reducible refine aw_condK ?_ | with_reducible refine aw_skip ?_ | with_reducible refine aw_ret ?_ | with_reducible refine aw_exit ?_ | with_reducible refine aw_label ?_ | with_reducible refine aw_block ?_ | with_reducible refine aw_scope ?_ | with_reducible refine And.intro ?_ ?_) <;> (try (simp (maxSteps := 1000000) (disch := first | omega | (simp only [List.length_append, List.length_cons, List.length_nil, List.length_map, bitsOf_len, readB_len, Int.natCast_add, Int.natCast_succ, Nat.zero_add, natCast_one, natCast_zero] <;> omega) | fail) only [go_sem])))
    | ((first | with_reducible refine wantK_split (fun h => ?_) (fun h => ?_) | with_reducible refine condK_split (fun h => ?_) (fun h => ?_) | with_reducible refine pickV_split (fun h => ?_) (fun h => ?_)) <;> (try (simp (maxSteps := 1000000) (disch := first | omega | (simp only [List.length_append, List.length_cons, List.length_nil, List.length_map, bitsOf_len, readB_len, Int.natCast_add, Int.natCast_succ, Nat.zero_add, natCast_one, natCast_zero] <;> omega) | fail) only [go_sem] at h)) <;> (try (simp (maxSteps := 1000000) (disch := first | omega | (simp only [List.length_append, List.length_cons, List.length_nil, List.length_map, bitsOf_len, readB_len, Int.natCast_add, Int.natCast_succ, Nat.zero_add, natCast_one, natCast_zero] <;> omega) | fail) only [go_sem, h])))))
    rfl

theorem RefSame_spec (a b : List Bool) (ha : a.length ≤ 100000000000) : PCalls Try.prog 63 [blsV a, blsV b] (.bool (decide (a = b))) := by
  refine PCalls.of_aw Try.func63 rfl (by unfold Callable; kernel_rfl) (by kernel_rfl) (by simp [Try.ntmps63]) ?_; rw [Try.ntmps63, Try.results63]; (simp (maxSteps := 1000000) (disch := first | omega | (simp only [List.length_append, List.length_cons, List.length_nil, List.length_map, bitsOf_len, readB_len, Int.natCast_add, Int.natCast_succ, Nat.zero_add, natCast_one, natCast_zero] <;> omega) | fail) only [go_sem])
  (repeat' (first
    | ((first | with_reducible refine aw_seq ?_ | with_reducible refine aw_region (aops_run ?_) | (with_reducible refine aw_regionD (fun _ => .p) mixed ?_ (dops_run ?_); (· kernel_rfl)) | (with_reducible refine aw_regionD (fun _ => .r) mixed ?_ (dops_run ?_); (· kernel_rfl)) | with_reducible refine aw_condK ?_ | with_reducible refine aw_skip ?_ | with_reducible refine aw_ret ?_ | with_reducible refine aw_exit ?_ | with_reducible refine aw_label ?_ | with_reducible refine aw_block ?_ | with_reducible refine aw_scope ?_ | with_reducible refine And.intro ?_ ?_) <;> (try (simp (maxSteps := 1000000) (disch := first | omega | (simp only [List.length_append, List.length_cons, List.length_nil, List.length_map, bitsOf_len, readB_len, Int.natCast_add, Int.natCast_succ, Nat.zero_add, natCast_one, natCast_zero] <;> omega) | fail) only [go_sem])))
    | ((first | with_reducible refine wantK_split (fun h => ?_) (fun h => ?_) | with_reducible refine condK_split (fun h => ?_) (fun h => ?_) | with_reducible refine pickV_split (fun h => ?_) (fun h => ?_)) <;> (try (simp (maxSteps := 1000000) (disch := first | omega | (simp only [List.length_append, List.length_cons, List.length_nil, List.length_map, bitsOf_len, readB_len, Int.natCast_add, Int.natCast_succ, Nat.zero_add, natCast_one, natCast_zero] <;> omega) | fail) only [go_sem] at h)) <;> (try (simp (maxSteps := 1000000) (disch := first | omega | (simp only [List.length_append, List.length_cons, List.length_nil, List.length_map, bitsOf_len, readB_len, Int.natCast_add, Int.natCast_succ, Nat.zero_add, natCast_one, natCast_zero] <;> omega) | fail) only [go_sem, h])))))
  · have : a ≠ b := fun e => by subst e; exact h rfl
    simp [this]
  have hab : a.length = b.length := by omega
  refine aw_loop (α := Nat) (fun j => ⟨26, sl [(0, .iv (.sl 1 (a.map .bool))), (1, .iv (.sl 1 (b.map .bool))), (5, .iv (.int .i64 j))], [], 0⟩)
    (fun j => j ≤ a.length ∧ isAt a b j = true) (fun j => a.length - j) 0 (wk_by [] ?_) ⟨by omega, by simp [isAt, hab]⟩ ?_
  · (simp (maxSteps := 1000000) (disch := first | omega | (simp only [List.length_append, List.length_cons, List.length_nil, List.length_map, bitsOf_len, readB_len, Int.natCast_add, Int.natCast_succ, Nat.zero_add, natCast_one, natCast_zero] <;> omega) | fail) only [go_sem])
  rintro j ⟨hj, hk⟩
  (repeat' (first
    | ((first | with_reducible refine aw_seq ?_ | with_reducible refine aw_region (aops_run ?_) | (with_reducible refine aw_regionD (fun _ => .p) mixed ?_ (dops_run ?_); (· kernel_rfl)) | (with_reducible refine aw_regionD (fun _ => .r) mixed ?_ (dops_run ?_); (· kernel_rfl)) | with_reducible refine aw_condK ?_ | with_reducible refine aw_skip ?_ | with_reducible refine aw_ret ?_ | with_reducible refine aw_exit ?_ | with_reducible refine aw_label ?_ | with_reducible refine aw_block ?_ | with_reducible refine aw_scope ?_ | with_reducible refine And.intro ?_ ?_) <;> (try (simp (maxSteps := 1000000) (disch := first | omega | (simp only [List.length_append, List.length_cons, List.length_nil, List.length_map, bitsOf_len, readB_len, Int.natCast_add, Int.natCast_succ, Nat.zero_add, natCast_one, natCast_zero] <;> omega) | fail) only [go_sem])))
    | ((first | with_reducible refine wantK_split (fun h => ?_) (fun h => ?_) | with_reducible refine condK_split (fun h => ?_) (fun h => ?_) | with_reducible refine pickV_split (fun h => ?_) (fun h => ?_)) <;> (try (simp (maxSteps := 1000000) (disch := first | omega | (simp only [List.length_append, List.length_cons, List.length_nil, List.length_map, bitsOf_len, readB_len, Int.natCast_add, Int.natCast_succ, Nat.zero_add, natCast_one, natCast_zero] <;> omega) | fail) only [go_sem] at h)) <;> (try (simp (maxSteps := 1000000) (disch := first | omega | (simp only [List.length_append, List.length_cons, List.length_nil, List.length_map, bitsOf_len, readB_len, Int.natCast_add, Int.natCast_succ, Nat.zero_add, natCast_one, natCast_zero] <;> omega) | fail) only [go_sem, h])))))
  all_goals (try omega)
  · have : a ≠ b := fun e => by subst e; simp at h
    simp [this]
  · refine ⟨j + 1, ⟨by omega, by rw [isAt_succ a b j (by omega) (by omega), hk, h]; rfl⟩, wk_by [] ?_, by omega⟩
    (simp (maxSteps := 1000000) (disch := first | omega | (simp only [List.length_append, List.length_cons, List.length_nil, List.length_map, bitsOf_len, readB_len, Int.natCast_add, Int.natCast_succ, Nat.zero_add, natCast_one, natCast_zero] <;> omega) | fail) only [go_sem])
  · rw [← isAt_end a b j (by omega), hk]

theorem ba_loop (b : ByteArray) : ∀ (n i : Nat) (r : List UInt8), b.size - i = n → ByteArray.toList.loop b i r = r.reverse ++ b.data.toList.drop i := by
  have hs : b.data.toList.length = b.size := Array.length_toList
  intro n
  induction n with
  | zero =>
    intro i r h
    unfold ByteArray.toList.loop
    rw [if_neg (by omega), List.drop_of_length_le (by omega), List.append_nil]
  | succ n ih =>
    intro i r h
    unfold ByteArray.toList.loop
    have hi : i < b.data.size := by have : b.data.size = b.size := rfl; omega
    have hg : b.get! i = b.data.toList[i]'(by omega) := by
      show b.data[i]! = _
      rw [getElem!_pos b.data i hi, Array.getElem_toList]
    rw [if_pos (by omega), ih (i + 1) _ (by omega), List.drop_eq_getElem_cons (show i < b.data.toList.length by omega), hg]
    simp only [List.reverse_cons, List.append_assoc, List.singleton_append]
theorem ba_toList (b : ByteArray) : b.toList = b.data.toList := by
  unfold ByteArray.toList
  rw [ba_loop b _ 0 [] rfl]; rfl
theorem readOk_size {n : Int} {s : ByteArray} (h : readOk n s = true) : (s.size : Int) = (n + 7) / 8 := by
  unfold readOk at h
  simp only [Bool.and_eq_true, decide_eq_true_eq, beq_iff_eq] at h
  obtain ⟨⟨h0, h1⟩, h2⟩ := h
  have := congrArg List.length h2
  rw [ba_toList, ba_toList, Array.length_toList, Array.length_toList] at this
  have e : (bytesS (readB s n.toNat)).data.size = (n.toNat + 7) / 8 := by simp [bytesS, readB_len]
  rw [e] at this
  have e2 : s.data.size = s.size := rfl
  omega

theorem RefRead_spec (n : Int) (s : ByteArray) (hs : s.size ≤ 1000000000) : PCalls Try.prog 73 [.int .i64 n, .str s] (.tup [blsV (readV n s), .int .i64 (readE n s)]) := by
  refine PCalls.of_aw Try.func73 rfl (by unfold Callable; kernel_rfl) (by kernel_rfl) (by simp [Try.ntmps73]) ?_; rw [Try.ntmps73, Try.results73]; (simp (maxSteps := 1000000) (disch := first | omega | (simp only [List.length_append, List.length_cons, List.length_nil, List.length_map, bitsOf_len, readB_len, Int.natCast_add, Int.natCast_succ, Nat.zero_add, natCast_one, natCast_zero] <;> omega) | fail) only [go_sem])
  (repeat' (first
    | ((first | with_reducible refine aw_seq ?_ | with_reducible refine aw_region (aops_run ?_) | (with_reducible refine aw_regionD (fun _ => .p) mixed ?_ (dops_run ?_); (· kernel_rfl)) | (with_reducible refine aw_regionD (fun _ => .r) mixed ?_ (dops_run ?_); (· kernel_rfl)) | with_reducible refine aw_condK ?_ | with_reducible refine aw_skip ?_ | with_reducible refine aw_ret ?_ | with_reducible refine aw_exit ?_ | with_reducible refine aw_label ?_ | with_reducible refine aw_block ?_ | with_reducible refine aw_scope ?_ | with_reducible refine And.intro ?_ ?_) <;> (try (simp (maxSteps := 1000000) (disch := first | omega | (simp only [List.length_append, List.length_cons, List.length_nil, List.length_map, bitsOf_len, readB_len, Int.natCast_add, Int.natCast_succ, Nat.zero_add, natCast_one, natCast_zero] <;> omega) | fail) only [go_sem])))
    | ((first | with_reducible refine wantK_split (fun h => ?_) (fun h => ?_) | with_reducible refine condK_split (fun h => ?_) (fun h => ?_) | with_reducible refine pickV_split (fun h => ?_) (fun h => ?_)) <;> (try (simp (maxSteps := 1000000) (disch := first | omega | (simp only [List.length_append, List.length_cons, List.length_nil, List.length_map, bitsOf_len, readB_len, Int.natCast_add, Int.natCast_succ, Nat.zero_add, natCast_one, natCast_zero] <;> omega) | fail) only [go_sem] at h)) <;> (try (simp (maxSteps := 1000000) (disch := first | omega | (simp only [List.length_append, List.length_cons, List.length_nil, List.length_map, bitsOf_len, readB_len, Int.natCast_add, Int.natCast_succ, Nat.zero_add, natCast_one, natCast_zero] <;> omega) | fail) only [go_sem, h])))))
  all_goals (try omega)
  · have e : readOk n s = false := by
      cases hk : readOk n s with
      | false => rfl
      | true => exact absurd (readOk_size hk) h
    unfold readV readE
    rw [e]; rfl
  · have hsz : (s.size : Int) = (n + 7) / 8 := by omega
    refine aw_loop (α := Nat) (fun j => ⟨48, sl [(0, .iv (.int .i64 n)), (1, .iv (.str s)), (6, .msl 1 0 (readB s j).length (readB s j).length), (7, .iv (.int .i64 j))], [.row true 4 1 [], .row true 4 1 ((readB s j).map .bool)], 0⟩)
      (fun j => (j : Int) ≤ n) (fun j => n.toNat - j) 0 (wk_by [0, 1] ?_) (by omega) ?_
    · (simp (maxSteps := 1000000) (disch := first | omega | (simp only [List.length_append, List.length_cons, List.length_nil, List.length_map, bitsOf_len, readB_len, Int.natCast_add, Int.natCast_succ, Nat.zero_add, natCast_one, natCast_zero] <;> omega) | fail) only [go_sem])
      exact ⟨rfl, rfl⟩
    rintro j hj
    have hjl := readB_len s j
    have hrl : ((readB s j).map IV.bool).length = j := by rw [List.length_map, hjl]
    have hb := bit8 (s.data.toList.getD (j / 8) 0).toNat (UInt8.toNat_lt _) (i := (j : Int) % 8) (by omega) (by omega)
    have e1 : ((j : Int) / 8).toNat = j / 8 := by omega
    have e2 : ((j : Int) % 8).toNat = j % 8 := by omega
    rw [e2] at hb
    (repeat' (first
    | ((first | with_reducible refine aw_seq ?_ | with_reducible refine aw_region (aops_run ?_) | (with_reducible refine aw_regionD (fun _ => .p) mixed ?_ (dops_run ?_); (· kernel_rfl)) | (with_reducible refine aw_regionD (fun _ => .r) mixed ?_ (dops_run ?_); (· kernel_rfl)) | with_reducible refine aw_condK ?_ | with_reducible refine aw_skip ?_ | with_reducible refine aw_ret ?_ | with_reducible refine aw_exit ?_ | with_reducible refine aw_label ?_ | with_reducible refine aw_block ?_ | with_reducible refine aw_scope ?_ | with_reducible refine And.intro ?_ ?_) <;> (try (simp (maxSteps := 1000000) (disch := first | omega | (simp only [List.length_append, List.length_cons, List.length_nil, List.length_map, bitsOf_len, readB_len, Int.natCast_add, Int.natCast_succ, Nat.zero_add, natCast_one, natCast_zero] <;> omega) | fail) only [go_sem, e1, e2, hb])))
    | ((first | with_reducible refine wantK_split (fun h => ?_) (fun h => ?_) | with_reducible refine condK_split (fun h => ?_) (fun h => ?_) | with_reducible refine pickV_split (fun h => ?_) (fun h => ?_)) <;> (try (simp (maxSteps := 1000000) (disch := first | omega | (simp only [List.length_append, List.length_cons, List.length_nil, List.length_map, bitsOf_len, readB_len, Int.natCast_add, Int.natCast_succ, Nat.zero_add, natCast_one, natCast_zero] <;> omega) | fail) only [go_sem] at h)) <;> (try (simp (maxSteps := 1000000) (disch := first | omega | (simp only [List.length_append, List.length_cons, List.length_nil, List.length_map, bitsOf_len, readB_len, Int.natCast_add, Int.natCast_succ, Nat.zero_add, natCast_one, natCast_zero] <;> omega) | fail) only [go_sem, h, e1, e2, hb])))))
    all_goals (try omega)
    · refine ⟨j + 1, by omega, wk_by [0, 1] ?_, by omega⟩
      (simp (maxSteps := 1000000) (disch := first | omega | (simp only [List.length_append, List.length_cons, List.length_nil, List.length_map, bitsOf_len, readB_len, Int.natCast_add, Int.natCast_succ, Nat.zero_add, natCast_one, natCast_zero] <;> omega) | fail) only [go_sem, readB_succ, List.map_append])
    · have ej : n.toNat = j := by omega
      ((with_reducible apply left_callfB); (· with_reducible rfl); (· (simp (maxSteps := 1000000) (disch := first | omega | (simp only [List.length_append, List.length_cons, List.length_nil, List.length_map, bitsOf_len, readB_len, Int.natCast_add, Int.natCast_succ, Nat.zero_add, natCast_one, natCast_zero] <;> omega) | fail) only [go_sem]) <;> rfl); (· exact RefBytes_spec (readB s j) (by omega)); (· rfl); try (simp (maxSteps := 1000000) (disch := first | omega | (simp only [List.length_append, List.length_cons, List.length_nil, List.length_map, bitsOf_len, readB_len, Int.natCast_add, Int.natCast_succ, Nat.zero_add, natCast_one, natCast_zero] <;> omega) | fail) only [go_sem]))
      (repeat' (first
    | ((first | with_reducible refine aw_seq ?_ | with_reducible refine aw_region (aops_run ?_) | (with_reducible refine aw_regionD (fun _ => .p) mixed ?_ (dops_run ?_); (· kernel_rfl)) | (with_reducible refine aw_regionD (fun _ => .r) mixed ?_ (dops_run ?_); (· kernel_rfl)) | with_reducible refine aw_condK ?_ | with_reducible refine aw_skip ?_ | with_reducible refine aw_ret ?_ | with_reducible refine aw_exit ?_ | with_reducible refine aw_label ?_ | with_reducible refine aw_block ?_ | with_reducible refine aw_scope ?_ | with_reducible refine And.intro ?_ ?_) <;> (try (simp (maxSteps := 1000000) (disch := first | omega | (simp only [List.length_append, List.length_cons, List.length_nil, List.length_map, bitsOf_len, readB_len, Int.natCast_add, Int.natCast_succ, Nat.zero_add, natCast_one, natCast_zero] <;> omega) | fail) only [go_sem])))
    | ((first | with_reducible refine wantK_split (fun h => ?_) (fun h => ?_) | with_reducible refine condK_split (fun h => ?_) (fun h => ?_) | with_reducible refine pickV_split (fun h => ?_) (fun h => ?_)) <;> (try (simp (maxSteps := 1000000) (disch := first | omega | (simp only [List.length_append, List.length_cons, List.length_nil, List.length_map, bitsOf_len, readB_len, Int.natCast_add, Int.natCast_succ, Nat.zero_add, natCast_one, natCast_zero] <;> omega) | fail) only [go_sem] at h)) <;> (try (simp (maxSteps := 1000000) (disch := first | omega | (simp only [List.length_append, List.length_cons, List.length_nil, List.length_map, bitsOf_len, readB_len, Int.natCast_add, Int.natCast_succ, Nat.zero_add, natCast_one, natCast_zero] <;> omega) | fail) only [go_sem, h])))))
      · have e : readOk n s = false := by unfold readOk; rw [ej, h, Bool.and_false]
        unfold readV readE
        rw [e]; rfl
      · have e : readOk n s = true := by unfold readOk; rw [ej, h, Bool.and_true, decide_eq_true_eq]; omega
        unfold readV readE
        rw [e, if_pos rfl, if_pos rfl, ej]
  · have e : readOk n s = false := by unfold readOk; rw [decide_eq_false (by omega)]; rfl
    unfold readV readE
    rw [e]; rfl
  · have e : readOk n s = false := by unfold readOk; rw [decide_eq_false (by omega)]; rfl
    unfold readV readE
    rw [e]; rfl
end Go.Proofs.Ytaenpfgljlahkaa.AM
