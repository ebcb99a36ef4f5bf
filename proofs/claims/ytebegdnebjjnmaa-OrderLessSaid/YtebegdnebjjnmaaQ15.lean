
/- Chapter 6: plain facts on ranks of pairs. No condition. -/
import Derived.Test.YtebegdnebjjnmaaQ14
set_option linter.unusedVariables false
set_option linter.unusedSimpArgs false
set_option maxRecDepth 20000
namespace Go.Proofs.Ytebegdnebjjnmaa.AM
open Go Go.RowKit

/-! ### the documents' count -/
/-- Does the k-th one differ from the first j? -/
def neB (e : Nat → Int) (k : Nat) : Nat → Bool
  | 0 => true
  | j + 1 => neB e k j && decide (e j ≠ e k)
theorem neB_iff (e : Nat → Int) (k : Nat) : ∀ j, neB e k j = true ↔ ∀ i, i < j → e i ≠ e k
  | 0 => by simp [neB]
  | j + 1 => by
    rw [neB, Bool.and_eq_true, neB_iff e k j, decide_eq_true_eq]
    constructor
    · rintro ⟨h1, h2⟩ i hi
      by_cases h : i = j
      · subst h; exact h2
      · exact h1 i (by omega)
    · intro h
      exact ⟨fun i hi => h i (by omega), h j (by omega)⟩
/-- How many different ones of the first k are less than x. -/
def cntL (e : Nat → Int) (x : Int) : Nat → Nat
  | 0 => 0
  | k + 1 => cntL e x k + (if (decide (e k < x) && neB e k k) = true then 1 else 0)
theorem cntL_le (e : Nat → Int) (x : Int) : ∀ k, cntL e x k ≤ k
  | 0 => Nat.le_refl _
  | k + 1 => by have := cntL_le e x k; simp only [cntL]; split <;> omega
/-- The first ones. -/
def fstP (e : Nat → Int) : Nat → List Int
  | 0 => []
  | k + 1 => fstP e k ++ (if neB e k k = true then [e k] else [])
theorem fstP_mem (e : Nat → Int) : ∀ {k : Nat} {x : Int}, x ∈ fstP e k ↔ ∃ j, j < k ∧ x = e j
  | 0, x => by simp [fstP]
  | k + 1, x => by
    rw [fstP, List.mem_append, fstP_mem e (k := k)]
    constructor
    · rintro (⟨j, h1, h2⟩ | h)
      · exact ⟨j, by omega, h2⟩
      · split at h
        · exact ⟨k, by omega, List.mem_singleton.1 h⟩
        · simp at h
    · rintro ⟨j, h1, h2⟩
      by_cases hj : j = k
      · subst hj
        cases hb : neB e j j with
        | true => right; rw [if_pos rfl, h2]; simp
        | false =>
          left
          have : ¬ ∀ i, i < j → e i ≠ e j := fun h => by rw [(neB_iff e j j).2 h] at hb; cases hb
          obtain ⟨i, hi⟩ := Classical.not_forall.1 this
          obtain ⟨h3, h4⟩ := Classical.not_imp.1 hi
          exact ⟨i, h3, by rw [h2]; exact (Decidable.not_not.1 h4).symm⟩
      · exact .inl ⟨j, by omega, h2⟩
theorem fstP_nodup (e : Nat → Int) : ∀ k, (fstP e k).Nodup
  | 0 => List.nodup_nil
  | k + 1 => by
    rw [fstP, List.nodup_append]
    refine ⟨fstP_nodup e k, by split <;> simp, fun a ha b hb => ?_⟩
    split at hb
    · rename_i h
      rw [List.mem_singleton] at hb
      subst hb
      obtain ⟨j, h1, rfl⟩ := (fstP_mem e).1 ha
      exact (neB_iff e k k).1 h j h1
    · simp at hb
theorem fstP_cnt (e : Nat → Int) (x : Int) : ∀ k, (fstP e k).countP (fun y => decide (y < x)) = cntL e x k
  | 0 => rfl
  | k + 1 => by
    rw [fstP, List.countP_append, fstP_cnt e x k, cntL]
    congr 1
    cases neB e k k with
    | true =>
      by_cases h : e k < x
      · simp [h]
      · simp [h]
    | false => simp
theorem pair_strict {l : List Int} (h : l.Pairwise (· ≤ ·)) (hn : l.Nodup) : l.Pairwise (· < ·) :=
  (List.Pairwise.and h hn).imp (fun ⟨h1, h2⟩ => by omega)
theorem find_count {D : List Int} (h : D.Pairwise (· < ·)) (x : Int) : D.countP (fun y => decide (y < x)) = findI D x := by
  induction D with
  | nil => rfl
  | cons a D ih =>
    rw [List.pairwise_cons] at h
    by_cases hx : a < x
    · have e : findI (a :: D) x = findI D x + 1 := by unfold findI; rw [List.takeWhile_cons_of_pos (by simpa using hx), List.length_cons]
      rw [List.countP_cons, ih h.2, e]; simp [hx]
    · have e : findI (a :: D) x = 0 := by unfold findI; rw [List.takeWhile_cons_of_neg (by simpa using hx)]; rfl
      rw [e, List.countP_eq_zero]
      intro y hy
      rcases List.mem_cons.1 hy with g | g
      · subst g; simpa using hx
      · have := h.1 y g
        simp; omega
theorem cnt_rank (l : List Int) (x : Int) : cntL (fun m => l.getD m 0) x l.length = findI (setI l) x := by
  have hs : sortI (fstP (fun m => l.getD m 0) l.length) = setI l := by
    refine strict_ext (pair_strict (sortI_srt _) ((sortI_perm _).nodup_iff.2 (fstP_nodup _ _))) (setI_pair l) (fun y => ?_)
    rw [(sortI_perm _).mem_iff, fstP_mem, setI_mem, List.mem_iff_getElem]
    constructor
    · rintro ⟨j, h1, h2⟩
      exact ⟨j, h1, by rw [h2]; simp [List.getD, List.getElem?_eq_getElem h1]⟩
    · rintro ⟨j, h1, h2⟩
      exact ⟨j, h1, by rw [← h2]; simp [List.getD, List.getElem?_eq_getElem h1]⟩
  rw [← fstP_cnt, ← find_count (setI_pair l) x, ← hs]
  exact ((sortI_perm _).countP_eq _).symm
/-! ### pairs as one number -/
def encF (a b : List Int) (i : Nat) : Int := (rankL a).getD i 0 * (max a.length 1 : Nat) + (rankL b).getD i 0
def encL (a b : List Int) : List Int := (List.range a.length).map (encF a b)
theorem encL_len (a b : List Int) : (encL a b).length = a.length := by simp [encL]
theorem encL_get {a b : List Int} {i : Nat} (h : i < a.length) : (encL a b).getD i 0 = encF a b i := range_atQ h
/-- Ranks of pairs. -/
def pairL (a b : List Int) : List Int := rankL (encL a b)
theorem enc_parts {a b : List Int} (hl : a.length = b.length) {i : Nat} (hi : i < a.length) :
    0 ≤ (rankL a).getD i 0 ∧ (rankL a).getD i 0 < (max a.length 1 : Nat) ∧ 0 ≤ (rankL b).getD i 0 ∧ (rankL b).getD i 0 < (max a.length 1 : Nat) := by
  have h1 := rank_range hi
  have h2 := rank_range (l := b) (i := i) (by omega)
  have h3 := setI_len a
  have h4 := setI_len b
  omega
theorem lex_lt {x y x' y' s : Int} (h1 : 0 ≤ y) (h2 : y < s) (h3 : 0 ≤ y') (h4 : y' < s) : x * s + y < x' * s + y' ↔ x < x' ∨ x = x' ∧ y < y' := by
  rcases Int.lt_trichotomy x x' with h | h | h
  · have : (x + 1) * s ≤ x' * s := Int.mul_le_mul_of_nonneg_right (by omega) (by omega)
    rw [Int.add_mul, Int.one_mul] at this
    omega
  · subst h; omega
  · have : (x' + 1) * s ≤ x * s := Int.mul_le_mul_of_nonneg_right (by omega) (by omega)
    rw [Int.add_mul, Int.one_mul] at this
    omega
theorem enc_lt {a b : List Int} (hl : a.length = b.length) {i k : Nat} (hi : i < a.length) (hk : k < a.length) :
    encF a b i < encF a b k ↔ a.getD i 0 < a.getD k 0 ∨ a.getD i 0 = a.getD k 0 ∧ b.getD i 0 < b.getD k 0 := by
  have h1 := enc_parts hl hi
  have h2 := enc_parts hl hk
  unfold encF
  rw [lex_lt h1.2.2.1 h1.2.2.2 h2.2.2.1 h2.2.2.2, rank_lt hi hk, rank_eq hi hk, rank_lt (l := b) (by omega) (by omega)]
theorem enc_eq {a b : List Int} (hl : a.length = b.length) {i k : Nat} (hi : i < a.length) (hk : k < a.length) :
    encF a b i = encF a b k ↔ a.getD i 0 = a.getD k 0 ∧ b.getD i 0 = b.getD k 0 := by
  have h1 := enc_lt hl hi hk
  have h2 := enc_lt hl hk hi
  omega
/-! ### places by two keys, one behind the other -/
theorem posK_lex {K : Nat → Nat} {n a b : Nat} (ha : a < n) (hb : b < n) (h : posK K n a < posK K n b) : K a < K b ∨ K a = K b ∧ a < b := by
  rcases Nat.lt_trichotomy (K a) (K b) with g | g | g
  · exact .inl g
  · rcases Nat.lt_trichotomy a b with g' | g' | g'
    · exact .inr ⟨g, g'⟩
    · subst g'; omega
    · have := posK_before hb ha (.inr ⟨g.symm, g'⟩); omega
  · have := posK_before hb ha (.inl g); omega
theorem two_sorts {K Y E : Nat → Nat} {n : Nat} (hE : ∀ a b, a < n → b < n → (K a < K b ∨ K a = K b ∧ Y a < Y b) → E a < E b)
    (hE2 : ∀ a b, a < n → b < n → K a = K b → Y a = Y b → E a = E b) :
    (List.range n).map (outF (fun t => K ((stabG Y n).getD t 0).toNat) (stabG Y n) n) = stabG E n := by
  have hlP := stabG_len Y n
  obtain ⟨K', hK'⟩ : ∃ K' : Nat → Nat, K' = fun t => K ((stabG Y n).getD t 0).toNat := ⟨_, rfl⟩
  rw [← hK']
  have hat : ∀ t, t < n → ((List.range n).map (outF K' (stabG Y n) n)).getD (posK K' n t) 0 = (stabG Y n).getD t 0 := by
    intro t ht
    have := outF_at K' (stabG Y n) t (fun t2 h1 h2 => by rw [hlP] at h1 ⊢; exact (posK_inj K' n h2 h1).symm) n ht (by rw [hlP]; exact Nat.le_refl _)
    rw [hlP] at this
    rw [range_atQ (posK_lt K' ht), this]
  have hperm : ((List.range n).map (outF K' (stabG Y n) n)).Perm (idL n) := by
    have h := allB_perm (p := (List.range n).map (outF K' (stabG Y n) n)) (allB_yes (fun v hv => by
      rw [List.length_map, List.length_range] at hv
      have h1 := hat (posK Y n v) (posK_lt Y hv)
      rw [stabG_at Y hv] at h1
      rw [← h1]
      exact getD_mem (by rw [List.length_map, List.length_range]; exact posK_lt K' (posK_lt Y hv))))
    rwa [List.length_map, List.length_range] at h
  refine stab_unique hperm (fun p a b hp ha hb => ?_)
  obtain ⟨t, _, ht, htp⟩ := stabG_who K' (n := n) (p := p) (by omega)
  obtain ⟨t', _, ht', htp'⟩ := stabG_who K' (n := n) (p := p + 1) hp
  rw [← htp, hat t ht] at ha
  rw [← htp', hat t' ht'] at hb
  obtain ⟨a', ea, ha', hpa⟩ := stabG_who Y ht
  obtain ⟨b', eb, hb', hpb⟩ := stabG_who Y ht'
  have e1 : a' = a := by omega
  have e2 : b' = b := by omega
  subst e1 e2
  have hlex := posK_lex ht ht' (show posK K' n t < posK K' n t' by omega)
  have k1 : K' t = K a' := by rw [hK']; dsimp only; rw [ea, Int.toNat_natCast]
  have k2 : K' t' = K b' := by rw [hK']; dsimp only; rw [eb, Int.toNat_natCast]
  rw [k1, k2] at hlex
  rcases hlex with h | ⟨h, h2⟩
  · exact .inl (hE a' b' ha' hb' (.inl h))
  · rcases posK_lex ha' hb' (show posK Y n a' < posK Y n b' by omega) with g | ⟨g, g2⟩
    · exact .inl (hE a' b' ha' hb' (.inr ⟨h, g⟩))
    · exact .inr ⟨hE2 a' b' ha' hb' h g, g2⟩
/-! ### how many different ones so far -/
theorem dedP_pre (f : Nat → Int) {i j : Nat} (h : i ≤ j) : ∃ r, dedP f j = dedP f i ++ r := by
  induction j with
  | zero => exact ⟨[], by rw [show i = 0 by omega]; rfl⟩
  | succ j ih =>
    by_cases e : i = j + 1
    · subst e; exact ⟨[], by simp⟩
    · obtain ⟨r, hr⟩ := ih (by omega)
      rw [dedP, hr]
      exact ⟨r ++ _, by rw [List.append_assoc]⟩
theorem dedP_last (f : Nat → Int) : ∀ k, 0 < (dedP f (k + 1)).length ∧ (dedP f (k + 1)).getD ((dedP f (k + 1)).length - 1) 0 = f k
  | 0 => by simp [dedP]
  | k + 1 => by
    by_cases h : f (k + 1) = f k
    · have := dedP_eq (f := f) (i := k + 1) (by omega) h
      rw [this, h]; exact dedP_last f k
    · have := dedP_ne (f := f) (i := k + 1) h
      rw [this]
      simp [List.getD]
theorem dedP_find {f : Nat → Int} {n k : Nat} (hm : ∀ i j, i ≤ j → j < n → f i ≤ f j) (hk : k < n) : findI (dedP f n) (f k) = (dedP f (k + 1)).length - 1 := by
  have hp := dedP_pair hm n (Nat.le_refl _)
  obtain ⟨r, hr⟩ := dedP_pre f (show k + 1 ≤ n by omega)
  obtain ⟨h1, h2⟩ := dedP_last f k
  have h3 : (dedP f n).getD ((dedP f (k + 1)).length - 1) 0 = f k := by
    rw [hr]
    simp only [List.getD] at h2 ⊢
    rw [List.getElem?_append_left (by omega)]; exact h2
  rw [← h3]
  exact find_at hp (by rw [hr, List.length_append]; omega)
theorem dedP_congr {f g : Nat → Int} : ∀ {n : Nat}, (∀ i, i < n → f i = g i) → dedP f n = dedP g n
  | 0, _ => rfl
  | n + 1, h => by
    rw [dedP, dedP, dedP_congr (fun i hi => h i (by omega)), h n (by omega)]
    by_cases e : n = 0
    · rw [if_pos (.inl e), if_pos (.inl e)]
    · rw [h (n - 1) (by omega)]
end Go.Proofs.Ytebegdnebjjnmaa.AM
