
/- Chapter 5: heaps that are put together, plainly: depths fall along the heaps in order, and fill all digits. No condition. -/
import Derived.Test.YtpjncojljamacaaGreatAC
set_option linter.unusedVariables false
set_option linter.unusedSimpArgs false
namespace Go.Proofs.YtpjncojljamacaaGreat.AM
open Go Go.RowKit

structure Hea where
  w : Int
  n : Int
  s : List Int
def hp0 : Hea := ⟨0, 0, []⟩
def ltH (a b : Hea) : Prop := a.w < b.w ∨ (a.w = b.w ∧ a.n < b.n)
instance ltHD (a b : Hea) : Decidable (ltH a b) := by unfold ltH; infer_instance
theorem ltH_irr (a : Hea) : ¬ ltH a a := by unfold ltH; omega
theorem ltH_trans {a b c : Hea} (h : ltH a b) (k : ltH b c) : ltH a c := by unfold ltH at *; omega
theorem ltH_asym {a b : Hea} (h : ltH a b) (k : ltH b a) : False := by unfold ltH at *; omega
def mstW : Int := 1152921504606846976
def mrgH (nx : Int) (a b : Hea) : Hea := ⟨min (a.w + b.w) mstW, nx, a.s ++ b.s⟩
def posH (h : Hea) (l : List Hea) : Nat := l.countP (fun x => decide (ltH x h))
def insP (h : Hea) (l : List Hea) : List Hea := l.take (posH h l) ++ h :: l.drop (posH h l)
theorem posH_le (h : Hea) (l : List Hea) : posH h l ≤ l.length := List.countP_le_length
theorem insP_len (h : Hea) (l : List Hea) : (insP h l).length = l.length + 1 := by
  have := posH_le h l
  unfold insP
  rw [List.length_append, List.length_cons, List.length_take, List.length_drop]; omega
structure HOk (nx : Int) (l : List Hea) : Prop where
  srt : l.Pairwise ltH
  num : ∀ h ∈ l, h.n < nx
  cap : ∀ h ∈ l, 0 < h.w ∧ h.w ≤ mstW
theorem memH {l : List Hea} {i : Nat} (h : i < l.length) : l.getD i hp0 ∈ l := by
  simp [List.getD, List.getElem?_eq_getElem h]
theorem ofMemH {l : List Hea} {x : Hea} (h : x ∈ l) : ∃ i, i < l.length ∧ l.getD i hp0 = x := by
  obtain ⟨i, hi, rfl⟩ := List.getElem_of_mem h
  exact ⟨i, hi, by simp [List.getD, List.getElem?_eq_getElem hi]⟩
theorem pos_at {h : Hea} : ∀ {l : List Hea} (hs : l.Pairwise ltH) {i : Nat} (hi : i < l.length), (i < posH h l ↔ ltH (l.getD i hp0) h)
  | [], _, i, hi => absurd hi (Nat.not_lt_zero _)
  | x :: l, hs, i, hi => by
    rw [List.pairwise_cons] at hs
    unfold posH
    rw [List.countP_cons]
    by_cases c : ltH x h
    · rw [if_pos (decide_eq_true c)]
      cases i with
      | zero => simp [c]
      | succ i =>
        have := pos_at (h := h) hs.2 (i := i) (by simpa using hi)
        unfold posH at this
        rw [List.getD_cons_succ, ← this]; omega
    · rw [if_neg (by rw [decide_eq_false c]; decide)]
      have hz : l.countP (fun x => decide (ltH x h)) = 0 := by
        rw [List.countP_eq_zero]
        intro y hy hd
        rw [decide_eq_true_eq] at hd
        exact c (ltH_trans (hs.1 y hy) hd)
      rw [hz]
      cases i with
      | zero => simp [c]
      | succ i =>
        rw [List.getD_cons_succ]
        exact ⟨fun g => absurd g (Nat.not_lt_zero _), fun g => absurd (ltH_trans (hs.1 _ (memH (by simpa using hi))) g) c⟩
theorem insP_at {l : List Hea} {h : Hea} (i : Nat) : (insP h l).getD i hp0 = if i < posH h l then l.getD i hp0 else if i = posH h l then h else l.getD (i - 1) hp0 := by
  have hp := posH_le h l
  have hl : (l.take (posH h l)).length = posH h l := by rw [List.length_take]; omega
  unfold insP
  by_cases c : i < posH h l
  · rw [if_pos c, List.getD, List.getElem?_append_left (by omega), List.getElem?_take, if_pos c]; rfl
  · rw [if_neg c, List.getD, List.getElem?_append_right (by omega), hl]
    by_cases e : i = posH h l
    · rw [if_pos e, e, Nat.sub_self]; rfl
    · rw [if_neg e]
      obtain ⟨j, hj⟩ : ∃ j, i - posH h l = j + 1 := ⟨i - posH h l - 1, by omega⟩
      rw [hj, List.getElem?_cons_succ, List.getElem?_drop, show posH h l + j = i - 1 by omega]; rfl
theorem insP_mem {l : List Hea} {h x : Hea} : x ∈ insP h l ↔ x = h ∨ x ∈ l := by
  unfold insP
  rw [List.mem_append, List.mem_cons]
  conv => rhs; rw [← List.take_append_drop (posH h l) l, List.mem_append]
  constructor
  · rintro (g | g | g)
    · exact .inr (.inl g)
    · exact .inl g
    · exact .inr (.inr g)
  · rintro (g | g | g)
    · exact .inr (.inl g)
    · exact .inl g
    · exact .inr (.inr g)
theorem insP_srt {l : List Hea} {h : Hea} (hs : l.Pairwise ltH) (hn : ∀ x ∈ l, x.n ≠ h.n) : (insP h l).Pairwise ltH := by
  have hs2 := hs
  rw [← List.take_append_drop (posH h l) l, List.pairwise_append] at hs2
  unfold insP
  rw [List.pairwise_append, List.pairwise_cons]
  refine ⟨hs2.1, ⟨fun y hy => ?_, hs2.2.1⟩, fun x hx y hy => ?_⟩
  · obtain ⟨i, hi, e⟩ := List.getElem_of_mem hy
    rw [List.length_drop] at hi
    have e2 : l.getD (posH h l + i) hp0 = y := by
      rw [← e, List.getElem_drop]
      simp [List.getD, List.getElem?_eq_getElem (show posH h l + i < l.length by omega)]
    have h1 := pos_at (h := h) hs (i := posH h l + i) (by omega)
    rw [e2] at h1
    have h2 : ¬ ltH y h := fun g => by have := h1.2 g; omega
    have h3 := hn y (by rw [← e2]; exact memH (by omega))
    unfold ltH at *
    omega
  · rcases List.mem_cons.1 hy with rfl | hy
    · obtain ⟨i, hi, e⟩ := List.getElem_of_mem hx
      rw [List.length_take] at hi
      have e2 : l.getD i hp0 = x := by
        rw [← e, List.getElem_take]
        simp [List.getD, List.getElem?_eq_getElem (show i < l.length by omega)]
      rw [← e2]
      exact (pos_at hs (i := i) (by omega)).1 (by omega)
    · exact hs2.2.2 x hx y hy
theorem HOk.step {nx : Int} {a b : Hea} {l : List Hea} (h : HOk nx (a :: b :: l)) : HOk (nx + 1) (insP (mrgH nx a b) l) := by
  obtain ⟨h1, h2, h3⟩ := h
  rw [List.pairwise_cons, List.pairwise_cons] at h1
  have ha := h3 a (by simp)
  have hb := h3 b (by simp)
  refine ⟨insP_srt h1.2.2 (fun x hx e => ?_), fun x hx => ?_, fun x hx => ?_⟩
  · have := h2 x (by simp [hx])
    rw [e] at this
    exact absurd this (Int.lt_irrefl _)
  · rcases insP_mem.1 hx with rfl | hx
    · show nx < nx + 1; omega
    · have := h2 x (by simp [hx]); omega
  · rcases insP_mem.1 hx with rfl | hx
    · show 0 < min (a.w + b.w) mstW ∧ min (a.w + b.w) mstW ≤ mstW
      unfold mstW at *; omega
    · exact h3 x (by simp [hx])
def hdL : Nat → Int → List Hea → List Nat
  | f + 1, nx, a :: b :: l => ((hdL f (nx + 1) (insP (mrgH nx a b) l)).getD (posH (mrgH nx a b) l) 0 + 1) :: ((hdL f (nx + 1) (insP (mrgH nx a b) l)).getD (posH (mrgH nx a b) l) 0 + 1) :: (hdL f (nx + 1) (insP (mrgH nx a b) l)).eraseIdx (posH (mrgH nx a b) l)
  | _, _, l => List.replicate l.length 0
theorem hdL0 (nx : Int) : ∀ l, hdL 0 nx l = List.replicate l.length 0
  | [] => rfl
  | [_] => rfl
  | _ :: _ :: _ => rfl
theorem hdL_len : ∀ (f : Nat) (nx : Int) (l : List Hea), (hdL f nx l).length = l.length
  | 0, nx, l => by rw [hdL0]; simp
  | f + 1, nx, [] => rfl
  | f + 1, nx, [a] => rfl
  | f + 1, nx, a :: b :: l => by
    rw [hdL, List.length_cons, List.length_cons, List.length_eraseIdx, hdL_len f, insP_len, if_pos (by have := posH_le (mrgH nx a b) l; omega)]
    rfl
theorem hdL_le : ∀ (f : Nat) (nx : Int) (l : List Hea) (i : Nat), (hdL f nx l).getD i 0 ≤ l.length - 1
  | 0, nx, l, i => by
    rw [hdL0]
    by_cases h : i < l.length
    · simp [List.getD, h]
    · simp [List.getD, List.getElem?_replicate, h]
  | f + 1, nx, [], i => by simp [hdL]
  | f + 1, nx, [a], i => by
    cases i with
    | zero => simp [hdL]
    | succ i => simp [hdL]
  | f + 1, nx, a :: b :: l, i => by
    have ih := hdL_le f (nx + 1) (insP (mrgH nx a b) l)
    rw [insP_len] at ih
    rw [hdL]
    have h0 := ih (posH (mrgH nx a b) l)
    match i with
    | 0 => simp only [List.getD_cons_zero, List.length_cons]; omega
    | 1 => simp only [List.getD_cons_succ, List.getD_cons_zero, List.length_cons]; omega
    | i + 2 =>
      simp only [List.getD_cons_succ, List.length_cons]
      have : ∃ j, ((hdL f (nx + 1) (insP (mrgH nx a b) l)).eraseIdx (posH (mrgH nx a b) l)).getD i 0 = (hdL f (nx + 1) (insP (mrgH nx a b) l)).getD j 0 := by
        rw [List.getD, List.getElem?_eraseIdx]
        split
        · exact ⟨i, rfl⟩
        · exact ⟨i + 1, rfl⟩
      obtain ⟨j, hj⟩ := this
      have := ih j
      omega
theorem era_at {D : List Nat} {p i : Nat} : (D.eraseIdx p).getD i 0 = if i < p then D.getD i 0 else D.getD (i + 1) 0 := by
  rw [List.getD, List.getElem?_eraseIdx]
  split <;> rfl
def krf (B : Nat) (D : List Nat) : Nat := (D.map (fun d => 2 ^ (B - d))).sum
theorem krf_era (B : Nat) : ∀ (D : List Nat) (p : Nat), p < D.length → krf B D = 2 ^ (B - D.getD p 0) + krf B (D.eraseIdx p)
  | [], p, h => absurd h (Nat.not_lt_zero _)
  | d :: D, 0, h => by simp [krf]
  | d :: D, p + 1, h => by
    have := krf_era B D p (by simpa using h)
    unfold krf at *
    simp only [List.map_cons, List.sum_cons, List.eraseIdx_cons_succ, List.getD_cons_succ]
    omega
theorem hd_fills : ∀ (f : Nat) (nx : Int) (l : List Hea) (B : Nat), l.length ≤ f + 1 → l ≠ [] → l.length ≤ B + 1 → krf B (hdL f nx l) = 2 ^ B
  | 0, nx, l, B, h1, h2, h3 => by
    have : l.length = 1 := by have := List.length_pos_iff.2 h2; omega
    rw [hdL0, this]
    simp [krf]
  | f + 1, nx, [], B, h1, h2, h3 => absurd rfl h2
  | f + 1, nx, [a], B, h1, h2, h3 => by simp [hdL, krf]
  | f + 1, nx, a :: b :: l, B, h1, h2, h3 => by
    have hil := insP_len (mrgH nx a b) l
    have hpl := posH_le (mrgH nx a b) l
    simp only [List.length_cons] at h1 h3
    have ih := hd_fills f (nx + 1) (insP (mrgH nx a b) l) B (by omega) (fun e => by rw [e] at hil; simp at hil) (by omega)
    have hle := hdL_le f (nx + 1) (insP (mrgH nx a b) l) (posH (mrgH nx a b) l)
    have hDl := hdL_len f (nx + 1) (insP (mrgH nx a b) l)
    rw [krf_era B _ (posH (mrgH nx a b) l) (by rw [hDl]; omega)] at ih
    rw [hdL]
    rw [hil] at hle
    generalize hdL f (nx + 1) (insP (mrgH nx a b) l) = D at *
    generalize posH (mrgH nx a b) l = p at *
    rw [← ih]
    unfold krf
    simp only [List.map_cons, List.sum_cons]
    obtain ⟨e, he⟩ : ∃ e, B - D.getD p 0 = e + 1 := ⟨B - D.getD p 0 - 1, by omega⟩
    rw [he, show B - (D.getD p 0 + 1) = e by omega, Nat.pow_succ]
    omega
end Go.Proofs.YtpjncojljamacaaGreat.AM
