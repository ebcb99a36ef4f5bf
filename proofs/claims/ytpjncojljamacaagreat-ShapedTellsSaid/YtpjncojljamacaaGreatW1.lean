
/- Plain facts for stable sorting: parts changed round, keys with places. No condition. -/
import Derived.Test.YtpjncojljamacaaGreatQA
set_option linter.unusedVariables false
set_option linter.unusedSimpArgs false
namespace Go.Proofs.YtpjncojljamacaaGreat.AM

def eK (K : Nat → Int) (N : Nat) (i : Nat) : Int := K i * N + i
theorem eK_lt {K : Nat → Int} {N x y : Nat} (hx : x < N) (hy : y < N) : eK K N x < eK K N y ↔ K x < K y ∨ (K x = K y ∧ x < y) := by
  unfold eK
  have hN : (0 : Int) ≤ N := by omega
  constructor
  · intro h
    rcases Int.lt_trichotomy (K x) (K y) with g | g | g
    · exact .inl g
    · rw [g] at h; exact .inr ⟨g, by omega⟩
    · have := Int.mul_le_mul_of_nonneg_right (show K y + 1 ≤ K x by omega) hN
      rw [Int.add_mul, Int.one_mul] at this
      omega
  · rintro (g | ⟨g, g2⟩)
    · have := Int.mul_le_mul_of_nonneg_right (show K x + 1 ≤ K y by omega) hN
      rw [Int.add_mul, Int.one_mul] at this
      omega
    · rw [g]; omega
theorem eK_inj {K : Nat → Int} {N x y : Nat} (hx : x < N) (hy : y < N) (h : eK K N x = eK K N y) : x = y := by
  have h1 := eK_lt (K := K) hx hy
  have h2 := eK_lt (K := K) hy hx
  rcases Nat.lt_trichotomy x y with g | g | g
  · rcases Int.lt_trichotomy (K x) (K y) with k | k | k
    · have := h1.2 (.inl k); omega
    · have := h1.2 (.inr ⟨k, g⟩); omega
    · have := h2.2 (.inl k); omega
  · exact g
  · rcases Int.lt_trichotomy (K x) (K y) with k | k | k
    · have := h1.2 (.inl k); omega
    · have := h2.2 (.inr ⟨k.symm, g⟩); omega
    · have := h2.2 (.inl k); omega
section
variable {α : Type}
def swr (σ : Nat → α) (a b n : Nat) : Nat → α := fun k => if a ≤ k ∧ k < a + n then σ (k - a + b) else if b ≤ k ∧ k < b + n then σ (k - b + a) else σ k
def rotF (σ : Nat → α) (a m e : Nat) : Nat → α := fun k => if a ≤ k ∧ k < a + (e - m) then σ (k + (m - a)) else if a + (e - m) ≤ k ∧ k < e then σ (k - (e - m)) else σ k
theorem swr_zero (σ : Nat → α) (a b : Nat) : swr σ a b 0 = σ := by
  funext k
  unfold swr
  repeat' split
  all_goals (first | (exfalso; omega) | rfl | (congr 1; omega))
theorem swr_succ (σ : Nat → α) {a b n : Nat} (h : a + n < b) : swp (swr σ a b n) (a + n) (b + n) = swr σ a b (n + 1) := by
  funext k
  unfold swp swr
  repeat' split
  all_goals (first | (exfalso; omega) | rfl | (congr 1; omega))
theorem swr_sw (σ : Nat → α) {a b lo hi : Nat} : ∀ {n : Nat}, a + n ≤ b → lo ≤ a → b + n ≤ hi → Sw lo hi σ (swr σ a b n)
  | 0, _, _, _ => by rw [swr_zero]; exact .refl
  | n + 1, h, h1, h2 => by
    rw [← swr_succ σ (show a + n < b by omega)]
    exact (swr_sw σ (by omega) h1 (by omega)).swap _ _ ⟨by omega, by omega⟩ ⟨by omega, by omega⟩
theorem rot_left (σ : Nat → α) {m i j : Nat} (hi : i ≤ m) (hj : j < i) : rotF (swr σ (m - i) m j) (m - (i - j)) m (m + j) = rotF σ (m - i) m (m + j) := by
  funext k
  unfold rotF swr
  repeat' split
  all_goals (first | (exfalso; omega) | rfl | (congr 1; omega))
theorem rot_right (σ : Nat → α) {m i j : Nat} (hi : i ≤ m) (hj : i < j) : rotF (swr σ (m - i) (m + j - i) i) (m - i) m (m + (j - i)) = rotF σ (m - i) m (m + j) := by
  funext k
  unfold rotF swr
  repeat' split
  all_goals (first | (exfalso; omega) | rfl | (congr 1; omega))
theorem rot_even (σ : Nat → α) {m i : Nat} (hi : i ≤ m) : swr σ (m - i) m i = rotF σ (m - i) m (m + i) := by
  funext k
  unfold swr rotF
  repeat' split
  all_goals (first | (exfalso; omega) | rfl | (congr 1; omega))
theorem rot_none (σ : Nat → α) {a m e : Nat} (h : a = m ∨ m = e) (ha : a ≤ m) (he : m ≤ e) : rotF σ a m e = σ := by
  funext k
  unfold rotF
  repeat' split
  all_goals (first | (exfalso; omega) | rfl | (congr 1; omega))
theorem rot_up (σ : Nat → α) {a k : Nat} (h : a ≤ k) : swp (rotF σ a (a + 1) (k + 1)) k (k + 1) = rotF σ a (a + 1) (k + 2) := by
  funext k
  unfold swp rotF
  repeat' split
  all_goals (first | (exfalso; omega) | rfl | (congr 1; omega))
theorem rot_down (σ : Nat → α) {m k : Nat} (h : 0 < k) (hk : k ≤ m) : swp (rotF σ k m (m + 1)) k (k - 1) = rotF σ (k - 1) m (m + 1) := by
  funext k
  unfold swp rotF
  repeat' split
  all_goals (first | (exfalso; omega) | rfl | (congr 1; omega))
theorem rot_sw {lo hi m : Nat} : ∀ (d i j : Nat) (σ : Nat → α), i + j ≤ d → i ≤ m → lo ≤ m - i → m + j ≤ hi → Sw lo hi σ (rotF σ (m - i) m (m + j))
  | 0, i, j, σ, h, hi, _, _ => by rw [rot_none σ (.inl (by omega)) (by omega) (by omega)]; exact .refl
  | d + 1, i, j, σ, h, hi, h1, h2 => by
    by_cases hi0 : i = 0
    · rw [rot_none σ (.inl (by omega)) (by omega) (by omega)]; exact .refl
    by_cases hj0 : j = 0
    · rw [rot_none σ (.inr (by omega)) (by omega) (by omega)]; exact .refl
    rcases Nat.lt_trichotomy i j with g | g | g
    · rw [← rot_right σ hi g]
      exact (swr_sw σ (by omega) h1 (by omega)).trans (rot_sw d i (j - i) _ (by omega) hi h1 (by omega))
    · subst g
      rw [← rot_even σ hi]
      exact swr_sw σ (by omega) h1 h2
    · rw [← rot_left σ hi g]
      exact (swr_sw σ (by omega) h1 (by omega)).trans (rot_sw d (i - j) j _ (by omega) (by omega) (by omega) h2)
end
theorem Srt.congr {f g : Nat → Int} {a b : Nat} (h : Srt f a b) (e : ∀ k, a ≤ k → k < b → g k = f k) : Srt g a b := fun p q h1 h2 h3 => by
  rw [e p h1 (by omega), e q (by omega) h3]; exact h p q h1 h2 h3
theorem Srt.join {f : Nat → Int} {a m b : Nat} (h1 : Srt f a m) (h2 : Srt f m b) (h : ∀ p q, a ≤ p → p < m → m ≤ q → q < b → f p ≤ f q) : Srt f a b := fun p q g1 g2 g3 => by
  by_cases e : q < m
  · exact h1 p q g1 g2 e
  · by_cases e2 : p < m
    · exact h p q g1 e2 (by omega) g3
    · exact h2 p q (by omega) g2 g3
structure SM (K : Nat → Int) (N : Nat) (σ : Nat → Nat) (a m b : Nat) : Prop where
  am : a ≤ m
  mb : m ≤ b
  lt : ∀ k, a ≤ k → k < b → σ k < N
  l : Srt (fun k => eK K N (σ k)) a m
  r : Srt (fun k => eK K N (σ k)) m b
  x : ∀ p q, a ≤ p → p < m → m ≤ q → q < b → σ p < σ q
namespace SM
variable {K : Nat → Int} {N : Nat} {σ : Nat → Nat} {a m b : Nat}
theorem ge (h : SM K N σ a m b) {p q : Nat} (hp : a ≤ p ∧ p < m) (hq : m ≤ q ∧ q < b) (hk : ¬ K (σ q) < K (σ p)) : eK K N (σ p) ≤ eK K N (σ q) := by
  have := (eK_lt (K := K) (h.lt p hp.1 (by have := h.mb; omega)) (h.lt q (by have := h.am; omega) hq.2)).2 (by
    have := h.x p q hp.1 hp.2 hq.1 hq.2; omega)
  omega
theorem le (h : SM K N σ a m b) {p q : Nat} (hp : a ≤ p ∧ p < m) (hq : m ≤ q ∧ q < b) (hk : K (σ q) < K (σ p)) : eK K N (σ q) ≤ eK K N (σ p) := by
  have := (eK_lt (K := K) (h.lt q (by have := h.am; omega) hq.2) (h.lt p hp.1 (by have := h.mb; omega))).2 (.inl hk)
  omega
theorem keyL (h : SM K N σ a m b) {p q : Nat} (h1 : a ≤ p) (h2 : p ≤ q) (h3 : q < m) : K (σ p) ≤ K (σ q) := by
  by_cases e : p = q
  · subst e; exact Int.le_refl _
  · have hlr : eK K N (σ p) ≤ eK K N (σ q) := h.l p q h1 (by omega) h3
    rcases (show K (σ q) < K (σ p) ∨ K (σ p) ≤ K (σ q) by omega) with g | g
    · have := (eK_lt (K := K) (h.lt q (by omega) (by have := h.mb; omega)) (h.lt p (by omega) (by have := h.mb; omega))).2 (.inl g)
      omega
    · exact g
theorem keyR (h : SM K N σ a m b) {p q : Nat} (h1 : m ≤ p) (h2 : p ≤ q) (h3 : q < b) : K (σ p) ≤ K (σ q) := by
  by_cases e : p = q
  · subst e; exact Int.le_refl _
  · have hlr : eK K N (σ p) ≤ eK K N (σ q) := h.r p q h1 (by omega) h3
    rcases (show K (σ q) < K (σ p) ∨ K (σ p) ≤ K (σ q) by omega) with g | g
    · have := (eK_lt (K := K) (h.lt q (by have := h.am; omega) (by omega)) (h.lt p (by have := h.am; omega) (by omega))).2 (.inl g)
      omega
    · exact g
theorem one (h : SM K N σ a (a + 1) b) {i : Nat} (hi : a + 1 ≤ i ∧ i ≤ b) (h1 : ∀ q, a + 1 ≤ q → q < i → K (σ q) < K (σ a)) (h2 : ∀ q, i ≤ q → q < b → ¬ K (σ q) < K (σ a)) :
    Srt (fun k => eK K N (rotF σ a (a + 1) i k)) a b := by
  have e1 : ∀ k, a ≤ k → k + 1 < i → rotF σ a (a + 1) i k = σ (k + 1) := fun k g1 g2 => by unfold rotF; rw [if_pos (by omega)]; congr 1; omega
  have e2 : rotF σ a (a + 1) i (i - 1) = σ a := by unfold rotF; rw [if_neg (by omega), if_pos (by omega)]; congr 1; omega
  have e3 : ∀ k, i ≤ k → rotF σ a (a + 1) i k = σ k := fun k g1 => by unfold rotF; rw [if_neg (by omega), if_neg (by omega)]
  intro p q g1 g2 g3
  dsimp only
  by_cases c1 : q + 1 < i
  · rw [e1 p g1 (by omega), e1 q (by omega) c1]; exact h.r _ _ (by omega) (by omega) (by omega)
  · by_cases c2 : q = i - 1
    · subst c2
      rw [e1 p g1 (by omega), e2]
      exact h.le ⟨Nat.le_refl _, by omega⟩ ⟨by omega, by omega⟩ (h1 (p + 1) (by omega) (by omega))
    · rw [e3 q (by omega)]
      by_cases c3 : p + 1 < i
      · rw [e1 p g1 c3]; exact h.r _ _ (by omega) (by omega) g3
      · by_cases c4 : p = i - 1
        · subst c4; rw [e2]; exact h.ge ⟨Nat.le_refl _, by omega⟩ ⟨by omega, g3⟩ (h2 q (by omega) g3)
        · rw [e3 p (by omega)]; exact h.r _ _ (by omega) g2 g3
theorem last (h : SM K N σ a m (m + 1)) {i : Nat} (hi : a ≤ i ∧ i ≤ m) (h1 : ∀ p, a ≤ p → p < i → ¬ K (σ m) < K (σ p)) (h2 : ∀ p, i ≤ p → p < m → K (σ m) < K (σ p)) :
    Srt (fun k => eK K N (rotF σ i m (m + 1) k)) a (m + 1) := by
  have e1 : ∀ k, k < i → rotF σ i m (m + 1) k = σ k := fun k g1 => by unfold rotF; rw [if_neg (by omega), if_neg (by omega)]
  have e2 : rotF σ i m (m + 1) i = σ m := by unfold rotF; rw [if_pos (by omega)]; congr 1; omega
  have e3 : ∀ k, i < k → k ≤ m → rotF σ i m (m + 1) k = σ (k - 1) := fun k g1 g2 => by unfold rotF; rw [if_neg (by omega), if_pos (by omega)]; congr 1; omega
  intro p q g1 g2 g3
  dsimp only
  by_cases c1 : q < i
  · rw [e1 p (by omega), e1 q c1]; exact h.l _ _ g1 g2 (by omega)
  · by_cases c2 : q = i
    · subst c2
      rw [e1 p g2, e2]
      exact h.ge ⟨g1, by omega⟩ ⟨Nat.le_refl _, by omega⟩ (h1 p g1 g2)
    · rw [e3 q (by omega) (by omega)]
      by_cases c3 : p < i
      · rw [e1 p c3]; exact h.l _ _ g1 (by omega) (by omega)
      · by_cases c4 : p = i
        · subst c4; rw [e2]; exact h.le ⟨by omega, by omega⟩ ⟨Nat.le_refl _, by omega⟩ (h2 _ (by omega) (by omega))
        · rw [e3 p (by omega) (by omega)]; exact h.l _ _ (by omega) (by omega) (by omega)
theorem part (h : SM K N σ a m b) {s mid s0 r0 : Nat} (hmid : mid = (a + b) / 2) (h0 : (mid < m ∧ s0 = mid + m - b ∧ r0 = mid) ∨ (m ≤ mid ∧ s0 = a ∧ r0 = m)) (hs : s0 ≤ s ∧ s ≤ r0)
    (h1 : ∀ c, s0 ≤ c → c < s → ¬ K (σ (mid + m - 1 - c)) < K (σ c)) (h2 : ∀ c, s ≤ c → c < r0 → K (σ (mid + m - 1 - c)) < K (σ c)) :
    a ≤ s ∧ s ≤ m ∧ s ≤ mid ∧ m ≤ mid + m - s ∧ mid ≤ mid + m - s ∧ mid + m - s ≤ b ∧
    SM K N (rotF σ s m (mid + m - s)) a s mid ∧ SM K N (rotF σ s m (mid + m - s)) mid (mid + m - s) b ∧
    ∀ p q, a ≤ p → p < mid → mid ≤ q → q < b → eK K N (rotF σ s m (mid + m - s) p) ≤ eK K N (rotF σ s m (mid + m - s) q) := by
  have ham := h.am
  have hmb := h.mb
  have b1 : a ≤ s ∧ s ≤ m ∧ s ≤ mid ∧ m ≤ mid + m - s ∧ mid ≤ mid + m - s ∧ mid + m - s ≤ b := by omega
  obtain ⟨c1, c2, c3, c4, c5, c6⟩ := b1
  refine ⟨c1, c2, c3, c4, c5, c6, ?_⟩
  obtain ⟨e, he⟩ : ∃ e, e = mid + m - s := ⟨_, rfl⟩
  rw [← he]
  rw [← he] at c4 c5 c6
  have r1 : ∀ k, k < s → rotF σ s m e k = σ k := fun k g => by unfold rotF; rw [if_neg (by omega), if_neg (by omega)]
  have r2 : ∀ k, s ≤ k → k < mid → rotF σ s m e k = σ (k + (m - s)) := fun k g1 g2 => by unfold rotF; rw [if_pos (by omega)]
  have r3 : ∀ k, mid ≤ k → k < e → rotF σ s m e k = σ (k - (e - m)) := fun k g1 g2 => by unfold rotF; rw [if_neg (by omega), if_pos (by omega)]
  have r4 : ∀ k, e ≤ k → rotF σ s m e k = σ k := fun k g => by unfold rotF; rw [if_neg (by omega), if_neg (by omega)]
  -- the first halves stand below the second ones
  have ab : ∀ p q, a ≤ p → p < s → e ≤ q → q < b → eK K N (σ p) ≤ eK K N (σ q) := fun p q g1 g2 g3 g4 => by
    refine h.ge ⟨g1, by omega⟩ ⟨by omega, g4⟩ (fun hk => ?_)
    by_cases g : s0 < s
    · have := h1 (s - 1) (by omega) (by omega)
      rw [show mid + m - 1 - (s - 1) = e by omega] at this
      have k1 := h.keyL (p := p) (q := s - 1) g1 (by omega) (by omega)
      have k2 := h.keyR (p := e) (q := q) (by omega) g3 g4
      omega
    · omega
  have ba : ∀ p q, m ≤ p → p < e → s ≤ q → q < m → eK K N (σ p) ≤ eK K N (σ q) := fun p q g1 g2 g3 g4 => by
    refine h.le ⟨by omega, g4⟩ ⟨g1, by omega⟩ ?_
    by_cases g : s < r0
    · have := h2 s (Nat.le_refl _) g
      rw [show mid + m - 1 - s = e - 1 by omega] at this
      have k1 := h.keyR (p := p) (q := e - 1) g1 (by omega) (by omega)
      have k2 := h.keyL (p := s) (q := q) (by omega) g3 g4
      omega
    · omega
  refine ⟨⟨c1, c3, fun k g1 g2 => ?_, ?_, ?_, fun p q g1 g2 g3 g4 => ?_⟩, ⟨c5, c6, fun k g1 g2 => ?_, ?_, ?_, fun p q g1 g2 g3 g4 => ?_⟩, fun p q g1 g2 g3 g4 => ?_⟩
  · by_cases g : k < s
    · rw [r1 k g]; exact h.lt _ g1 (by omega)
    · rw [r2 k (by omega) g2]; exact h.lt _ (by omega) (by omega)
  · intro p q g1 g2 g3
    dsimp only
    rw [r1 p (by omega), r1 q g3]; exact h.l _ _ g1 g2 (by omega)
  · intro p q g1 g2 g3
    dsimp only
    rw [r2 p g1 (by omega), r2 q (by omega) g3]; exact h.r _ _ (by omega) (by omega) (by omega)
  · rw [r1 p g2, r2 q g3 g4]; exact h.x _ _ g1 (by omega) (by omega) (by omega)
  · by_cases g : k < e
    · rw [r3 k g1 g]; exact h.lt _ (by omega) (by omega)
    · rw [r4 k (by omega)]; exact h.lt _ (by omega) g2
  · intro p q g1 g2 g3
    dsimp only
    rw [r3 p g1 (by omega), r3 q (by omega) g3]; exact h.l _ _ (by omega) (by omega) (by omega)
  · intro p q g1 g2 g3
    dsimp only
    rw [r4 p g1, r4 q (by omega)]; exact h.r _ _ (by omega) g2 g3
  · rw [r3 p g1 g2, r4 q g3]; exact h.x _ _ (by omega) (by omega) (by omega) g4
  · by_cases k1 : p < s
    · rw [r1 p k1]
      by_cases k2 : q < e
      · rw [r3 q g3 k2]
        have := h.l p (q - (e - m)) g1 (by omega) (by omega)
        exact this
      · rw [r4 q (by omega)]; exact ab p q g1 k1 (by omega) g4
    · rw [r2 p (by omega) g2]
      by_cases k2 : q < e
      · rw [r3 q g3 k2]; exact ba _ _ (by omega) (by omega) (by omega) (by omega)
      · rw [r4 q (by omega)]
        have := h.r (p + (m - s)) q (by omega) (by omega) g4
        exact this
end SM
end Go.Proofs.YtpjncojljamacaaGreat.AM
