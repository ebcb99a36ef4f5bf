
/- Chapter 16: trees, their ways up, their order, plainly. No condition. -/
import Derived.Test.YtnijpeeehnnipaaSA
import Derived.Test.YtnijpeeehnnipaaXT
set_option linter.unusedVariables false
set_option linter.unusedSimpArgs false
namespace Go.Proofs.Ytnijpeeehnnipaa.AM
open Go Go.RowKit

def parF (t : Tr) (i : Int) : Int := if 0 ≤ i ∧ i < t.len ∧ 0 ≤ (t.at i.toNat).par ∧ (t.at i.toNat).par < i then (t.at i.toNat).par else -1
def symF (t : Tr) (i : Int) : Int :=
  if 0 ≤ i ∧ i < t.len then
    if (t.at i.toNat).kind ≠ 1 ∧ (t.at i.toNat).kind ≠ 2 then 2 * t.names.length
    else if 0 ≤ (t.at i.toNat).name ∧ (t.at i.toNat).name < t.names.length then (if (t.at i.toNat).kind = 2 then 2 * (t.at i.toNat).name + 1 else 2 * (t.at i.toNat).name) else -1
  else -1
theorem parF_cases (t : Tr) (i : Int) : parF t i = -1 ∨ (0 ≤ parF t i ∧ parF t i < i ∧ i < t.len) := by
  unfold parF
  split
  · right; omega
  · left; rfl
theorem parF_neg (t : Tr) {i : Int} (h : i < 0) : parF t i = -1 := by unfold parF; rw [if_neg (by omega)]
theorem symF_ge (t : Tr) (i : Int) : -1 ≤ symF t i := by
  unfold symF
  split
  · split
    · omega
    · split
      · split <;> omega
      · omega
  · omega
theorem symF_le (t : Tr) (i : Int) : symF t i ≤ 2 * t.names.length := by
  unfold symF
  split
  · split
    · omega
    · split
      · split <;> omega
      · omega
  · omega
def upF (t : Tr) : Nat → Int → List Int
  | 0, _ => []
  | f + 1, i => if parF t i < 0 then [] else symF t (parF t i) :: upF t f (parF t i)
theorem upF_more (t : Tr) : ∀ (f : Nat) (i : Int), i ≤ f → upF t f i = upF t (f + 1) i
  | 0, i, h => by
    rw [upF, upF]
    rw [if_pos]
    rcases parF_cases t i with h1 | h1
    · omega
    · omega
  | f + 1, i, h => by
    rw [upF]
    conv => rhs; rw [upF]
    by_cases h1 : parF t i < 0
    · rw [if_pos h1, if_pos h1]
    · rw [if_neg h1, if_neg h1, upF_more t f (parF t i) (by rcases parF_cases t i with h2 | h2 <;> omega)]
def upT (t : Tr) (i : Int) : List Int := upF t t.len i
theorem upT_step (t : Tr) (i : Int) : upT t i = if parF t i < 0 then [] else symF t (parF t i) :: upT t (parF t i) := by
  unfold upT
  by_cases h1 : parF t i < 0
  · rw [if_pos h1]
    cases t.len with
    | zero => rfl
    | succ n => rw [upF, if_pos h1]
  · rw [if_neg h1]
    have h2 : 0 ≤ parF t i ∧ parF t i < i ∧ i < t.len := by rcases parF_cases t i with h2 | h2 <;> omega
    obtain ⟨n, hn⟩ : ∃ n, t.len = n + 1 := ⟨t.len - 1, by omega⟩
    rw [hn, upF, if_neg h1, ← upF_more t n _ (by omega)]
theorem upT_nil (t : Tr) {i : Int} (h : parF t i < 0) : upT t i = [] := by rw [upT_step, if_pos h]
theorem upT_cons (t : Tr) {i : Int} (h : 0 ≤ parF t i) : upT t i = symF t (parF t i) :: upT t (parF t i) := by rw [upT_step, if_neg (by omega)]
def anc (t : Tr) : Nat → Int → Int
  | 0, i => i
  | d + 1, i => anc t d (parF t i)
theorem anc_neg (t : Tr) : ∀ (d : Nat) {i : Int}, i < 0 → anc t d i < 0
  | 0, _, h => h
  | d + 1, i, h => anc_neg t d (by rw [parF_neg t h]; omega)
theorem anc_add (t : Tr) : ∀ (d e : Nat) (i : Int), anc t (d + e) i = anc t e (anc t d i)
  | 0, e, i => by rw [Nat.zero_add]; rfl
  | d + 1, e, i => by rw [show d + 1 + e = (d + e) + 1 by omega, anc, anc_add t d e, anc]
theorem anc_le (t : Tr) : ∀ (d : Nat) (i : Int), 0 ≤ anc t d i → anc t d i + d ≤ i
  | 0, i, h => by simp [anc]
  | d + 1, i, h => by
    rw [anc] at h ⊢
    have ih := anc_le t d _ h
    rcases parF_cases t i with h2 | h2
    · rw [h2] at h; have := anc_neg t d (i := -1) (by omega); omega
    · omega
theorem anc_lt (t : Tr) (d : Nat) (i : Int) (hi : i < t.len) (h : 0 ≤ anc t d i) : anc t d i < t.len := by
  have := anc_le t d i h; omega
theorem up_split (t : Tr) : ∀ (d : Nat) (i : Int), 0 ≤ i → (0 ≤ anc t d i → (upT t i).take d ++ upT t (anc t d i) = upT t i ∧ ((upT t i).take d).length = d) ∧ (anc t d i < 0 → (upT t i).length < d)
  | 0, i, hi => by simp [anc]; omega
  | d + 1, i, hi => by
    rw [anc]
    rcases parF_cases t i with h2 | h2
    · have h3 := anc_neg t d (i := parF t i) (by omega)
      refine ⟨fun h => by omega, fun _ => by rw [upT_nil t (by omega)]; simp⟩
    · obtain ⟨h3, h4⟩ := up_split t d (parF t i) h2.1
      rw [upT_cons t h2.1]
      refine ⟨fun h => ?_, fun h => ?_⟩
      · obtain ⟨h5, h6⟩ := h3 h
        rw [List.take_succ_cons, List.cons_append, h5]
        exact ⟨rfl, by rw [List.length_cons, h6]⟩
      · have := h4 h
        rw [List.length_cons]; omega
theorem wl_parts : ∀ (d : Nat) (A B A' B' : List Int), (A.length = d ∨ A.length < d ∧ A' = []) → (B.length = d ∨ B.length < d ∧ B' = []) → (wl (A ++ A') (B ++ B') = true ↔ wl A B = true ∨ (A = B ∧ wl A' B' = true))
  | 0, A, B, A', B', hA, hB => by
    have e1 : A = [] := List.length_eq_zero_iff.1 (by omega)
    have e2 : B = [] := List.length_eq_zero_iff.1 (by omega)
    subst e1 e2
    simp [wl]
  | d + 1, [], [], A', B', hA, hB => by simp [wl]
  | d + 1, [], b :: B, A', B', hA, hB => by
    have : A' = [] := by rcases hA with h | h; simp at h; exact h.2
    subst this
    simp [wl]
  | d + 1, a :: A, [], A', B', hA, hB => by
    have : B' = [] := by rcases hB with h | h; simp at h; exact h.2
    subst this
    simp [wl]
  | d + 1, a :: A, b :: B, A', B', hA, hB => by
    have ih := wl_parts d A B A' B' (by simpa using hA) (by simpa using hB)
    simp only [List.cons_append, wl]
    by_cases h1 : a < b
    · simp [h1]
    · by_cases h2 : a = b
      · subst h2
        simp [ih]
      · simp [h1, h2]
        intro h3; omega
def kR (R : Nat → Nat → Bool) (n i : Nat) : Nat := (List.range n).countP (fun j => R j i)
theorem kR_lt {R : Nat → Nat → Bool} {n : Nat} (irr : ∀ i, R i i = false) (tr : ∀ i j k, R i j = true → R j k = true → R i k = true) {i j : Nat} (hi : i < n) (h : R i j = true) : kR R n i < kR R n j := by
  unfold kR
  have e : ∀ k, R k i = true → R k j = true := fun k hk => tr k i j hk h
  have key : ∀ l : List Nat, i ∈ l → l.countP (fun k => R k i) < l.countP (fun k => R k j) := by
    intro l
    induction l with
    | nil => intro hm; simp at hm
    | cons a l ih =>
      intro hm
      have hle : l.countP (fun k => R k i) ≤ l.countP (fun k => R k j) := List.countP_mono_left (fun k _ hk => e k hk)
      rw [List.countP_cons, List.countP_cons]
      by_cases ha : a = i
      · subst ha
        rw [irr a, h]
        simp; omega
      · have := ih (by rcases List.mem_cons.1 hm with h' | h'; exact absurd h'.symm ha; exact h')
        by_cases hx : R a i = true
        · rw [if_pos hx, if_pos (e a hx)]; omega
        · rw [if_neg hx]; split <;> omega
  exact key _ (List.mem_range.2 hi)
theorem kR_iff {R : Nat → Nat → Bool} {n : Nat} (irr : ∀ i, R i i = false) (tr : ∀ i j k, R i j = true → R j k = true → R i k = true)
    (tri : ∀ i j, R i j = true ∨ R j i = true ∨ ∀ k, R k i = R k j) {i j : Nat} (hi : i < n) (hj : j < n) : kR R n i < kR R n j ↔ R i j = true := by
  refine ⟨fun h => ?_, kR_lt irr tr hi⟩
  rcases tri i j with h1 | h1 | h1
  · exact h1
  · have := kR_lt irr tr (n := n) hj h1; omega
  · have : kR R n i = kR R n j := by unfold kR; congr 1; funext k; rw [h1 k]
    omega
theorem stab_same {K K' : Nat → Nat} {n : Nat} (h : ∀ i j, i < n → j < n → (K i < K j ↔ K' i < K' j)) : stabG K n = stabG K' n := by
  have hp : (stabG K n).Perm (idL n) := by
    have := allB_perm (stabG_all K n)
    rwa [stabG_len] at this
  refine stab_unique hp (fun i a b hi ha hb => ?_)
  obtain ⟨h1, h2, h3⟩ := stabG_next K hi ha hb
  have e1 := h a b h1 h2
  have e2 := h b a h2 h1
  rcases h3 with h3 | ⟨h3, h4⟩
  · exact .inl (e1.1 h3)
  · right
    refine ⟨?_, h4⟩
    have : ¬ K' a < K' b := fun h => by have := e1.2 h; omega
    have : ¬ K' b < K' a := fun h => by have := e2.2 h; omega
    omega
def wR (t : Tr) (i j : Nat) : Bool := wl (upT t i) (upT t j)
def wK16 (t : Tr) : Nat → Nat := kR (wR t) t.len
theorem wK_iff (t : Tr) {i j : Nat} (hi : i < t.len) (hj : j < t.len) : wK16 t i < wK16 t j ↔ wl (upT t i) (upT t j) = true := by
  refine kR_iff (R := wR t) (fun i => wl_irr _) (fun i j k h1 h2 => wl_trans (a := upT t i) h1 h2) (fun i j => ?_) hi hj
  rcases wl_tri (upT t i) (upT t j) with h | h | h
  · exact .inl h
  · exact .inr (.inr (fun k => by unfold wR; rw [h]))
  · exact .inr (.inl h)
def ordL (t : Tr) : List Int := stabG (wK16 t) t.len
theorem ordL_len (t : Tr) : (ordL t).length = t.len := stabG_len _ _
end Go.Proofs.Ytnijpeeehnnipaa.AM
