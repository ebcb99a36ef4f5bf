
/- Chapter 7: the order of suffixes, plainly. Chapter 7: suffixes by triples, plainly. Chapter 7: merging two orders of suffixes, plainly. Chapter 7: from a sample's order to the whole one, plainly. Chapter 7: the order that end makes is the order of suffixes, plainly. -/
import Derived.Test.YtpjncojljamacaaGreatAD
import Derived.Test.YtpjncojljamacaaGreatQC

set_option linter.unusedVariables false
set_option linter.unusedSimpArgs false
namespace Go.Proofs.YtpjncojljamacaaGreat.AM

def ups (r k : Nat) : List Int := (List.range k).map (fun (j : Nat) => ((r + 3 * j : Nat) : Int))
theorem ups_len (r k : Nat) : (ups r k).length = k := by simp [ups]
theorem ups_succ (r k : Nat) : ups r (k + 1) = ups r k ++ [((r + 3 * k : Nat) : Int)] := by simp [ups, List.range_succ]
def cntU (n r : Nat) : Nat := (n + 3 - r) / 3
def pls (n : Nat) : Nat → List Int
  | 0 => []
  | r + 1 => pls n r ++ ups (r + 1) (cntU n (r + 1))
theorem pls_le (n : Nat) : ∀ r, (pls n r).length ≤ r * (n + 3)
  | 0 => by simp [pls]
  | r + 1 => by
    have := pls_le n r
    have h2 : cntU n (r + 1) ≤ n + 3 := by unfold cntU; omega
    rw [pls, List.length_append, ups_len, Nat.add_mul]; omega
def cmpL : List Int → List Int → Int
  | [], [] => 0
  | [], _ :: _ => -1
  | _ :: _, [] => 1
  | x :: a, y :: b => if x < y then -1 else if y < x then 1 else cmpL a b
def lessB (row : List Int) (g : Nat → Int) (s t : Nat) : Bool :=
  if t % 3 = 1 then decide (cmpL [row.getD s 0, g (s + 1)] [row.getD t 0, g (t + 1)] < 0)
  else decide (cmpL [row.getD s 0, row.getD (s + 1) 0, g (s + 2)] [row.getD t 0, row.getD (t + 1) 0, g (t + 2)] < 0)
def wl : List Int → List Int → Bool
  | _, [] => false
  | [], _ :: _ => true
  | x :: a, y :: b => if x < y then true else if y < x then false else wl a b
theorem wl_irr : ∀ a, wl a a = false
  | [] => rfl
  | x :: a => by rw [wl, if_neg (Int.lt_irrefl x), if_neg (Int.lt_irrefl x)]; exact wl_irr a
theorem wl_trans : ∀ {a b c}, wl a b = true → wl b c = true → wl a c = true
  | _, _, [], _, h => by simp [wl] at h
  | _, [], _ :: _, h, _ => by cases ‹List Int› <;> simp [wl] at h
  | [], _ :: _, _ :: _, _, _ => rfl
  | x :: a, y :: b, z :: c, h, k => by
    simp only [wl] at h k ⊢
    by_cases h1 : x < y
    · by_cases k1 : y < z
      · rw [if_pos (by omega)]
      · by_cases k2 : z < y
        · rw [if_neg k1, if_pos k2] at k; cases k
        · rw [if_pos (by omega)]
    · by_cases h2 : y < x
      · rw [if_neg h1, if_pos h2] at h; cases h
      · rw [if_neg h1, if_neg h2] at h
        obtain rfl : x = y := by omega
        by_cases k1 : x < z
        · rw [if_pos k1]
        · by_cases k2 : z < x
          · rw [if_neg k1, if_pos k2] at k; cases k
          · rw [if_neg k1, if_neg k2] at k
            rw [if_neg k1, if_neg k2]; exact wl_trans h k
theorem wl_tri : ∀ a b, wl a b = true ∨ a = b ∨ wl b a = true
  | [], [] => .inr (.inl rfl)
  | [], _ :: _ => .inl rfl
  | _ :: _, [] => .inr (.inr rfl)
  | x :: a, y :: b => by
    simp only [wl]
    rcases Int.lt_trichotomy x y with h | h | h
    · exact .inl (by rw [if_pos h])
    · subst h
      rw [if_neg (Int.lt_irrefl x), if_neg (Int.lt_irrefl x), if_neg (Int.lt_irrefl x), if_neg (Int.lt_irrefl x)]
      rcases wl_tri a b with g | g | g
      · exact .inl g
      · exact .inr (.inl (by rw [g]))
      · exact .inr (.inr g)
    · exact .inr (.inr (by rw [if_pos h]))
def sl2 (l : List Int) (i k : Nat) : Prop := wl (l.drop i) (l.drop k) = true
theorem sl2_step {l : List Int} (hp : ∀ x ∈ l, 1 ≤ x) {i k : Nat} (hi : i ≤ l.length) (hk : k ≤ l.length) :
    sl2 l i k ↔ l.getD i 0 < l.getD k 0 ∨ (l.getD i 0 = l.getD k 0 ∧ l.getD i 0 ≠ 0 ∧ sl2 l (i + 1) (k + 1)) := by
  have gd : ∀ {j}, j < l.length → l.getD j 0 = l[j]! ∧ 1 ≤ l.getD j 0 := fun {j} hj => by
    have e : l.getD j 0 = l[j] := by simp [List.getD, List.getElem?_eq_getElem hj]
    exact ⟨by rw [e]; simp [hj], by rw [e]; exact hp _ (List.getElem_mem hj)⟩
  have g0 : ∀ {j}, l.length ≤ j → l.getD j 0 = 0 := fun {j} hj => by simp [List.getD, List.getElem?_eq_none hj]
  unfold sl2
  by_cases h1 : i < l.length
  · by_cases h2 : k < l.length
    · have e1 : l.getD i 0 = l[i] := by simp [List.getD, List.getElem?_eq_getElem h1]
      have e2 : l.getD k 0 = l[k] := by simp [List.getD, List.getElem?_eq_getElem h2]
      have p1 := (gd h1).2
      rw [List.drop_eq_getElem_cons h1, List.drop_eq_getElem_cons h2, wl, e1, e2]
      rw [e1] at p1
      by_cases a1 : l[i] < l[k]
      · rw [if_pos a1]; simp [a1]
      · by_cases a2 : l[k] < l[i]
        · rw [if_neg a1, if_pos a2]
          constructor
          · intro h; cases h
          · rintro (h | ⟨h, _⟩) <;> omega
        · rw [if_neg a1, if_neg a2]
          constructor
          · intro h; exact .inr ⟨by omega, by omega, h⟩
          · rintro (h | ⟨_, _, h⟩)
            · omega
            · exact h
    · have p1 := (gd h1).2
      have z := g0 (j := k) (by omega)
      rw [List.drop_of_length_le (show l.length ≤ k by omega), z]
      have : wl (l.drop i) [] = false := by cases l.drop i <;> rfl
      rw [this]
      constructor
      · intro h; cases h
      · rintro (h | ⟨h, h', _⟩) <;> omega
  · have z := g0 (j := i) (by omega)
    by_cases h2 : k < l.length
    · have p2 := (gd h2).2
      rw [List.drop_of_length_le (show l.length ≤ i by omega), List.drop_eq_getElem_cons h2, z]
      constructor
      · intro _; exact .inl (by omega)
      · intro _; rfl
    · have z2 := g0 (j := k) (by omega)
      rw [List.drop_of_length_le (show l.length ≤ i by omega), List.drop_of_length_le (show l.length ≤ k by omega), z, z2]
      constructor
      · intro h; cases h
      · rintro (h | ⟨_, h, _⟩)
        · omega
        · exact absurd rfl h
theorem sl2_tri {l : List Int} {i k : Nat} (hi : i ≤ l.length) (hk : k ≤ l.length) : sl2 l i k ∨ i = k ∨ sl2 l k i := by
  unfold sl2
  rcases wl_tri (l.drop i) (l.drop k) with h | h | h
  · exact .inl h
  · have := congrArg List.length h
    simp at this
    exact .inr (.inl (by omega))
  · exact .inr (.inr h)
theorem sl2_irr (l : List Int) (i : Nat) : ¬ sl2 l i i := by unfold sl2; rw [wl_irr]; simp
theorem sl2_trans {l : List Int} {i j k : Nat} (h : sl2 l i j) (h2 : sl2 l j k) : sl2 l i k := wl_trans h h2
theorem sl2_asym {l : List Int} {i k : Nat} (h : sl2 l i k) (h2 : sl2 l k i) : False := sl2_irr l i (sl2_trans h h2)
end Go.Proofs.YtpjncojljamacaaGreat.AM

set_option linter.unusedVariables false
set_option linter.unusedSimpArgs false
namespace Go.Proofs.YtpjncojljamacaaGreat.AM

def lex3 (l : List Int) (i k : Nat) : Prop := l.getD i 0 < l.getD k 0 ∨ (l.getD i 0 = l.getD k 0 ∧ (l.getD (i + 1) 0 < l.getD (k + 1) 0 ∨ (l.getD (i + 1) 0 = l.getD (k + 1) 0 ∧ l.getD (i + 2) 0 < l.getD (k + 2) 0)))
def eq3 (l : List Int) (i k : Nat) : Prop := l.getD i 0 = l.getD k 0 ∧ l.getD (i + 1) 0 = l.getD (k + 1) 0 ∧ l.getD (i + 2) 0 = l.getD (k + 2) 0
theorem at_zero {l : List Int} (hp : ∀ x ∈ l, 1 ≤ x) (i : Nat) : l.getD i 0 = 0 ↔ l.length ≤ i := by
  by_cases h : i < l.length
  · have e : l.getD i 0 = l[i] := by simp [List.getD, List.getElem?_eq_getElem h]
    have := hp _ (List.getElem_mem h)
    rw [e]; omega
  · have e : l.getD i 0 = 0 := by simp [List.getD, List.getElem?_eq_none (show l.length ≤ i by omega)]
    rw [e]; omega
theorem at_pos {l : List Int} (hp : ∀ x ∈ l, 1 ≤ x) (i : Nat) : 0 ≤ l.getD i 0 := by
  by_cases h : i < l.length
  · have e : l.getD i 0 = l[i] := by simp [List.getD, List.getElem?_eq_getElem h]
    have := hp _ (List.getElem_mem h)
    rw [e]; omega
  · rw [(at_zero hp i).2 (by omega)]; exact Int.le_refl _
theorem sl2_3 {l : List Int} (hp : ∀ x ∈ l, 1 ≤ x) {i k : Nat} (hi : i ≤ l.length) (hk : k ≤ l.length) :
    sl2 l i k ↔ lex3 l i k ∨ (eq3 l i k ∧ i + 3 ≤ l.length ∧ k + 3 ≤ l.length ∧ sl2 l (i + 3) (k + 3)) := by
  have zi := at_zero hp i
  have zk := at_zero hp k
  have zi1 := at_zero hp (i + 1)
  have zk1 := at_zero hp (k + 1)
  have zi2 := at_zero hp (i + 2)
  have zk2 := at_zero hp (k + 2)
  have pi1 := at_pos hp (i + 1)
  have pk1 := at_pos hp (k + 1)
  have pi2 := at_pos hp (i + 2)
  have pk2 := at_pos hp (k + 2)
  rw [sl2_step hp hi hk]
  unfold lex3 eq3
  by_cases h0 : l.getD i 0 = l.getD k 0
  · by_cases z0 : l.getD i 0 = 0
    · have e1 := zi.1 z0
      have e2 := zk.1 (by omega)
      have : i = k := by omega
      subst this
      constructor
      · rintro (h | ⟨_, h, _⟩)
        · omega
        · exact absurd z0 h
      · rintro (h | ⟨_, h, _⟩)
        · rcases h with h | ⟨_, h | ⟨_, h⟩⟩ <;> omega
        · omega
    · have hi1 : i + 1 ≤ l.length := by omega
      have hk1 : k + 1 ≤ l.length := by omega
      rw [sl2_step hp hi1 hk1]
      by_cases h1 : l.getD (i + 1) 0 = l.getD (k + 1) 0
      · by_cases z1 : l.getD (i + 1) 0 = 0
        · have e1 := zi1.1 z1
          have e2 := zk1.1 (by omega)
          have : i = k := by omega
          subst this
          constructor
          · rintro (h | ⟨_, _, h | ⟨_, h, _⟩⟩)
            · omega
            · omega
            · exact absurd z1 h
          · rintro (h | ⟨_, h, _⟩)
            · rcases h with h | ⟨_, h | ⟨_, h⟩⟩ <;> omega
            · omega
        · have hi2 : i + 2 ≤ l.length := by omega
          have hk2 : k + 2 ≤ l.length := by omega
          rw [sl2_step hp hi2 hk2]
          constructor
          · rintro (h | ⟨_, _, h | ⟨_, _, h | ⟨h2, h3, h4⟩⟩⟩)
            · omega
            · omega
            · exact .inl (.inr ⟨h0, .inr ⟨h1, h⟩⟩)
            · exact .inr ⟨⟨h0, h1, h2⟩, by omega, by omega, h4⟩
          · rintro (h | ⟨⟨_, _, h2⟩, g1, g2, h4⟩)
            · rcases h with h | ⟨_, h | ⟨_, h⟩⟩
              · omega
              · omega
              · exact .inr ⟨h0, z0, .inr ⟨h1, z1, .inl h⟩⟩
            · exact .inr ⟨h0, z0, .inr ⟨h1, z1, .inr ⟨h2, by omega, h4⟩⟩⟩
      · constructor
        · rintro (h | ⟨_, _, h | ⟨h, _⟩⟩)
          · omega
          · exact .inl (.inr ⟨h0, .inl h⟩)
          · exact absurd h h1
        · rintro (h | ⟨⟨_, h, _⟩, _⟩)
          · rcases h with h | ⟨_, h | ⟨h, _⟩⟩
            · omega
            · exact .inr ⟨h0, z0, .inl h⟩
            · exact absurd h h1
          · exact absurd h h1
  · constructor
    · rintro (h | ⟨h, _⟩)
      · exact .inl (.inl h)
      · exact absurd h h0
    · rintro (h | ⟨⟨h, _⟩, _⟩)
      · rcases h with h | ⟨h, _⟩
        · exact .inl h
        · exact absurd h h0
      · exact absurd h h0
theorem samp {l r : List Int} (hl : ∀ x ∈ l, 1 ≤ x) (hr : ∀ x ∈ r, 1 ≤ x) (P : Nat → Nat) (hP : ∀ j, j < r.length → P j ≤ l.length) (hinj : ∀ j k, j < r.length → k < r.length → P j = P k → j = k)
    (hst : ∀ j, j < r.length → P j + 3 ≤ l.length → j + 1 < r.length ∧ P (j + 1) = P j + 3)
    (hlt : ∀ j k, j < r.length → k < r.length → (r.getD j 0 < r.getD k 0 ↔ lex3 l (P j) (P k))) (heq : ∀ j k, j < r.length → k < r.length → (r.getD j 0 = r.getD k 0 ↔ eq3 l (P j) (P k))) :
    ∀ (m j k : Nat), r.length - j ≤ m → j < r.length → k < r.length → (sl2 r j k ↔ sl2 l (P j) (P k))
  | 0, j, k, hm, hj, hk => by omega
  | m + 1, j, k, hm, hj, hk => by
    have p1 := hP j hj
    have p2 := hP k hk
    have nz : r.getD j 0 ≠ 0 := fun h => by have := (at_zero hr j).1 h; omega
    rw [sl2_step hr (by omega) (by omega), sl2_3 hl p1 p2, hlt j k hj hk, heq j k hj hk]
    refine or_congr Iff.rfl (and_congr_right (fun he => ?_))
    by_cases hb : P j + 3 ≤ l.length ∧ P k + 3 ≤ l.length
    · obtain ⟨s1, s2⟩ := hst j hj hb.1
      obtain ⟨s3, s4⟩ := hst k hk hb.2
      have ih := samp hl hr P hP hinj hst hlt heq m (j + 1) (k + 1) (by omega) s1 s3
      rw [ih, s2, s4]
      exact ⟨fun h => ⟨hb.1, hb.2, h.2⟩, fun h => ⟨nz, h.2.2⟩⟩
    · have hjk : j = k := by
        refine hinj j k hj hk ?_
        obtain ⟨h0, h1, h2⟩ := he
        have a0 := at_zero hl (P j)
        have a1 := at_zero hl (P j + 1)
        have a2 := at_zero hl (P j + 2)
        have b0 := at_zero hl (P k)
        have b1 := at_zero hl (P k + 1)
        have b2 := at_zero hl (P k + 2)
        omega
      subst hjk
      constructor
      · rintro ⟨_, h⟩; exact absurd h (sl2_irr _ _)
      · rintro ⟨h1, h2, _⟩; exact absurd ⟨h1, h2⟩ hb
end Go.Proofs.YtpjncojljamacaaGreat.AM

set_option linter.unusedVariables false
set_option linter.unusedSimpArgs false
namespace Go.Proofs.YtpjncojljamacaaGreat.AM

theorem pw_ext {α : Type} {R : α → α → Prop} (irr : ∀ a, ¬ R a a) (asym : ∀ a b, R a b → R b a → False) : ∀ (s t : List α), s.Pairwise R → t.Pairwise R → (∀ x, x ∈ s ↔ x ∈ t) → s = t
  | [], [], _, _, _ => rfl
  | [], b :: t, _, _, h => absurd ((h b).2 (by simp)) (by simp)
  | a :: s, [], _, _, h => absurd ((h a).1 (by simp)) (by simp)
  | a :: s, b :: t, hs, ht, h => by
    rw [List.pairwise_cons] at hs ht
    have hab : a = b := by
      rcases List.mem_cons.1 ((h a).1 (by simp)) with e | e
      · exact e
      · rcases List.mem_cons.1 ((h b).2 (by simp)) with e' | e'
        · exact e'.symm
        · exact (asym a b (hs.1 b e') (ht.1 a e)).elim
    subst hab
    congr 1
    refine pw_ext irr asym s t hs.2 ht.2 (fun x => ⟨fun hx => ?_, fun hx => ?_⟩)
    · rcases List.mem_cons.1 ((h x).1 (by simp [hx])) with e | e
      · exact absurd (e ▸ hs.1 x hx) (irr _)
      · exact e
    · rcases List.mem_cons.1 ((h x).2 (by simp [hx])) with e | e
      · exact absurd (e ▸ ht.1 x hx) (irr _)
      · exact e
def Rs (l : List Int) (x y : Int) : Prop := sl2 l x.toNat y.toNat
theorem Rs_irr (l : List Int) (x : Int) : ¬ Rs l x x := sl2_irr _ _
theorem Rs_asym (l : List Int) (x y : Int) (h : Rs l x y) (h2 : Rs l y x) : False := sl2_asym h h2
theorem Rs_trans {l : List Int} {x y z : Int} (h : Rs l x y) (h2 : Rs l y z) : Rs l x z := sl2_trans h h2
def IsSA (l s : List Int) : Prop := s.Pairwise (Rs l) ∧ ∀ x, x ∈ s ↔ 0 ≤ x ∧ x < l.length
theorem IsSA.unique {l s t : List Int} (h : IsSA l s) (k : IsSA l t) : s = t := pw_ext (Rs_irr l) (Rs_asym l) s t h.1 k.1 (fun x => (h.2 x).trans (k.2 x).symm)

def mrg (le : Int → Int → Bool) : List Int → List Int → List Int
  | [], t => t
  | x :: s, [] => x :: s
  | x :: s, y :: t => if le x y = true then x :: mrg le s (y :: t) else y :: mrg le (x :: s) t
termination_by s t => s.length + t.length
theorem mrg_mem (le : Int → Int → Bool) (s t : List Int) (z : Int) : z ∈ mrg le s t ↔ z ∈ s ∨ z ∈ t := by
  fun_induction mrg le s t with
  | case1 t => simp
  | case2 x s => simp
  | case3 x s y t h ih => rw [List.mem_cons, ih, List.mem_cons, List.mem_cons]; grind
  | case4 x s y t h ih => rw [List.mem_cons, ih, List.mem_cons, List.mem_cons]; grind
theorem mrg_pw {R : Int → Int → Prop} (tr : ∀ x y z, R x y → R y z → R x z) (le : Int → Int → Bool) (s t : List Int) (hs : s.Pairwise R) (ht : t.Pairwise R) (h1 : ∀ x y, x ∈ s → y ∈ t → le x y = true → R x y) (h2 : ∀ x y, x ∈ s → y ∈ t → le x y = false → R y x) : (mrg le s t).Pairwise R := by
  fun_induction mrg le s t with
  | case1 t => exact ht
  | case2 x s => exact hs
  | case3 x s y t h ih =>
    rw [List.pairwise_cons] at hs
    refine List.pairwise_cons.2 ⟨fun z hz => ?_, ih hs.2 ht (fun a b ha hb => h1 a b (by simp [ha]) hb) (fun a b ha hb => h2 a b (by simp [ha]) hb)⟩
    rw [mrg_mem] at hz
    rcases hz with hz | hz
    · exact hs.1 z hz
    · have hxy := h1 x y (by simp) (by simp) h
      rcases List.mem_cons.1 hz with e | e
      · rw [e]; exact hxy
      · exact tr _ _ _ hxy ((List.pairwise_cons.1 ht).1 z e)
  | case4 x s y t h ih =>
    rw [List.pairwise_cons] at ht
    refine List.pairwise_cons.2 ⟨fun z hz => ?_, ih hs ht.2 (fun a b ha hb => h1 a b ha (by simp [hb])) (fun a b ha hb => h2 a b ha (by simp [hb]))⟩
    rw [mrg_mem] at hz
    have hyx := h2 x y (by simp) (by simp) (by simpa using h)
    rcases hz with hz | hz
    · rcases List.mem_cons.1 hz with e | e
      · rw [e]; exact hyx
      · exact tr _ _ _ hyx ((List.pairwise_cons.1 hs).1 z e)
    · exact ht.1 z hz
theorem mrg_len (le : Int → Int → Bool) (s t : List Int) : (mrg le s t).length = s.length + t.length := by
  fun_induction mrg le s t <;> simp_all <;> omega

def rkF (Nx : List Int) : Nat → Nat → Int
  | 0, _ => 0
  | i + 1, p => if Nx.getD i 0 = (p : Int) then ((i + 1 : Nat) : Int) else rkF Nx i p
theorem rkF_spec {Nx : List Int} (hn : ∀ i j, i < Nx.length → j < Nx.length → Nx.getD i 0 = Nx.getD j 0 → i = j) : ∀ {i k p : Nat}, i ≤ Nx.length → k < i → Nx.getD k 0 = (p : Int) → rkF Nx i p = ((k + 1 : Nat) : Int)
  | 0, k, p, _, hk, _ => by omega
  | i + 1, k, p, hi, hk, hp => by
    rw [rkF]
    by_cases h : Nx.getD i 0 = (p : Int)
    · rw [if_pos h, hn i k (by omega) (by omega) (h.trans hp.symm)]
    · rw [if_neg h]
      have : k ≠ i := fun e => h (e ▸ hp)
      exact rkF_spec hn (by omega) (by omega) hp
theorem rkF_le (Nx : List Int) : ∀ (i p : Nat), 0 ≤ rkF Nx i p ∧ rkF Nx i p ≤ i
  | 0, p => by simp [rkF]
  | i + 1, p => by
    have := rkF_le Nx i p
    rw [rkF]; split <;> omega
def IsSm (l Nx : List Int) : Prop := Nx.Pairwise (Rs l) ∧ ∀ x, x ∈ Nx ↔ 0 ≤ x ∧ x ≤ l.length ∧ x % 3 ≠ 0
theorem pw_inj {l Nx : List Int} (h : Nx.Pairwise (Rs l)) : ∀ i j, i < Nx.length → j < Nx.length → Nx.getD i 0 = Nx.getD j 0 → i = j := by
  have e : ∀ i (hi : i < Nx.length), Nx.getD i 0 = Nx[i] := fun i hi => by simp [List.getD, List.getElem?_eq_getElem hi]
  rw [List.pairwise_iff_getElem] at h
  intro i j hi hj hij
  rw [e i hi, e j hj] at hij
  rcases Nat.lt_trichotomy i j with g | g | g
  · have := h i j hi hj g; rw [hij] at this; exact absurd this (Rs_irr _ _)
  · exact g
  · have := h j i hj hi g; rw [hij] at this; exact absurd this (Rs_irr _ _)
theorem rk_lt {l Nx : List Int} (h : IsSm l Nx) {p q : Nat} (hp : p ≤ l.length) (hp3 : p % 3 ≠ 0) (hq : q ≤ l.length) (hq3 : q % 3 ≠ 0) : rkF Nx Nx.length p < rkF Nx Nx.length q ↔ sl2 l p q := by
  have e : ∀ i (hi : i < Nx.length), Nx.getD i 0 = Nx[i] := fun i hi => by simp [List.getD, List.getElem?_eq_getElem hi]
  obtain ⟨i, hi, ei⟩ := List.getElem_of_mem ((h.2 p).2 ⟨by omega, by omega, by omega⟩)
  obtain ⟨j, hj, ej⟩ := List.getElem_of_mem ((h.2 q).2 ⟨by omega, by omega, by omega⟩)
  have hn := pw_inj h.1
  rw [rkF_spec hn (Nat.le_refl _) hi ((e i hi).trans ei), rkF_spec hn (Nat.le_refl _) hj ((e j hj).trans ej)]
  have hpw := List.pairwise_iff_getElem.1 h.1
  constructor
  · intro hlt
    have := hpw i j hi hj (by omega)
    rw [ei, ej] at this
    simpa [Rs] using this
  · intro hs
    rcases Nat.lt_trichotomy i j with g | g | g
    · omega
    · subst g
      rw [ei] at ej
      have : p = q := by omega
      subst this
      exact absurd hs (sl2_irr _ _)
    · have := hpw j i hj hi g
      rw [ei, ej] at this
      exact (sl2_asym hs (by simpa [Rs] using this)).elim
theorem cmp2 (a b c d : Int) : cmpL [a, b] [c, d] < 0 ↔ a < c ∨ (a = c ∧ b < d) := by
  simp only [cmpL]
  split
  · simp; omega
  · split
    · simp; omega
    · split
      · simp; omega
      · split
        · simp; omega
        · simp; omega
theorem cmp3 (a b c d e f : Int) : cmpL [a, b, c] [d, e, f] < 0 ↔ a < d ∨ (a = d ∧ (b < e ∨ (b = e ∧ c < f))) := by
  rw [cmpL]
  split
  · simp; omega
  · split
    · simp; omega
    · rw [cmp2]; omega
theorem lessB_spec {l Nx : List Int} (hl : ∀ x ∈ l, 1 ≤ x) (h : IsSm l Nx) {s t : Nat} (hs : s < l.length) (hs3 : s % 3 = 0) (ht : t < l.length) (ht3 : t % 3 ≠ 0) : lessB l (rkF Nx Nx.length) s t = true ↔ sl2 l s t := by
  have zs := at_zero hl s
  have zs1 := at_zero hl (s + 1)
  have zt1 := at_zero hl (t + 1)
  unfold lessB
  rw [sl2_step hl (by omega) (by omega)]
  split
  · rename_i h1
    rw [decide_eq_true_iff, cmp2, rk_lt h (p := s + 1) (q := t + 1) (by omega) (by omega) (by omega) (by omega)]
    exact or_congr Iff.rfl (and_congr_right (fun _ => ⟨fun g => ⟨by omega, g⟩, fun g => g.2⟩))
  · rename_i h1
    rw [decide_eq_true_iff, cmp3, sl2_step hl (i := s + 1) (k := t + 1) (by omega) (by omega)]
    refine or_congr Iff.rfl (and_congr_right (fun _ => ?_))
    by_cases hz : l.getD (s + 1) 0 = l.getD (t + 1) 0
    · have nz : l.getD (s + 1) 0 ≠ 0 := fun hz0 => by
        have e1 := zs1.1 hz0
        have e2 := zt1.1 (by omega)
        omega
      rw [rk_lt h (p := s + 2) (q := t + 2) (by omega) (by omega) (by omega) (by omega)]
      constructor
      · rintro (g | ⟨_, g⟩)
        · exact ⟨by omega, .inl g⟩
        · exact ⟨by omega, .inr ⟨hz, nz, g⟩⟩
      · rintro ⟨_, g | ⟨_, _, g⟩⟩
        · exact .inl g
        · exact .inr ⟨hz, g⟩
    · constructor
      · rintro (g | ⟨g, _⟩)
        · exact ⟨by omega, .inl g⟩
        · exact absurd g hz
      · rintro ⟨_, g | ⟨g, _⟩⟩
        · exact .inl g
        · exact absurd g hz
end Go.Proofs.YtpjncojljamacaaGreat.AM

set_option linter.unusedVariables false
set_option linter.unusedSimpArgs false
namespace Go.Proofs.YtpjncojljamacaaGreat.AM

def enc3 (row places : List Int) : List Int := pairL (places.map (fun i => row.getD i.toNat 0)) (pairL (places.map (fun i => row.getD (i.toNat + 1) 0)) (places.map (fun i => row.getD (i.toNat + 2) 0)))
def plP (n j : Nat) : Nat := if j < cntU n 1 then 1 + 3 * j else 2 + 3 * (j - cntU n 1)
theorem pls_len (n : Nat) : (pls n 2).length = cntU n 1 + cntU n 2 := by simp [pls, ups_len]
theorem ups_get {r k j : Nat} (h : j < k) : (ups r k).getD j 0 = ((r + 3 * j : Nat) : Int) := by simp [ups, List.getD, h]
theorem pls_get {n j : Nat} (h : j < cntU n 1 + cntU n 2) : (pls n 2).getD j 0 = (plP n j : Int) := by
  have e : pls n 2 = ups 1 (cntU n 1) ++ ups 2 (cntU n 2) := by simp [pls]
  unfold plP
  rw [e]
  by_cases h1 : j < cntU n 1
  · rw [if_pos h1, List.getD, List.getElem?_append_left (by rw [ups_len]; exact h1)]
    exact ups_get h1
  · rw [if_neg h1, List.getD, List.getElem?_append_right (by rw [ups_len]; omega), ups_len]
    exact ups_get (by omega)
theorem plP_le {n j : Nat} (h : j < cntU n 1 + cntU n 2) : plP n j ≤ n := by
  unfold plP cntU at *; split <;> omega
theorem plP_3 {n j : Nat} : plP n j % 3 ≠ 0 := by unfold plP; split <;> omega
theorem plP_inj {n j k : Nat} (h : plP n j = plP n k) : j = k := by unfold plP at h; split at h <;> split at h <;> omega
theorem plP_step {n j : Nat} (h : j < cntU n 1 + cntU n 2) (hs : plP n j + 3 ≤ n) : j + 1 < cntU n 1 + cntU n 2 ∧ plP n (j + 1) = plP n j + 3 := by
  unfold plP at *
  by_cases h1 : j < cntU n 1
  · rw [if_pos h1] at hs
    have : j + 1 < cntU n 1 := by unfold cntU; omega
    rw [if_pos h1, if_pos this]; omega
  · rw [if_neg h1] at hs
    have : j + 1 < cntU n 1 + cntU n 2 := by unfold cntU at *; omega
    rw [if_neg h1, if_neg (by omega)]; omega
theorem plP_all {n p : Nat} (hp : p ≤ n) (h3 : p % 3 ≠ 0) : ∃ j, j < cntU n 1 + cntU n 2 ∧ plP n j = p := by
  by_cases h : p % 3 = 1
  · refine ⟨p / 3, ?_, ?_⟩
    · unfold cntU; omega
    · unfold plP; rw [if_pos (by unfold cntU; omega)]; omega
  · refine ⟨cntU n 1 + p / 3, ?_, ?_⟩
    · have : p / 3 < cntU n 2 := by unfold cntU; omega
      omega
    · unfold plP; rw [if_neg (by omega)]; omega
def nxt (l : List Int) : List Int := (enc3 l (pls l.length 2)).map (· + 1)
def smp (l next : List Int) : List Int := next.map (fun i => (pls l.length 2).getD i.toNat 0)
theorem enc3_len (l p : List Int) : (enc3 l p).length = p.length := by unfold enc3 pairL; rw [rankL_len, encL_len]; simp
theorem nxt_len (l : List Int) : (nxt l).length = cntU l.length 1 + cntU l.length 2 := by unfold nxt; rw [List.length_map, enc3_len, pls_len]
theorem pair_lt {a b : List Int} (hl : a.length = b.length) {i k : Nat} (hi : i < a.length) (hk : k < a.length) : (pairL a b).getD i 0 < (pairL a b).getD k 0 ↔ a.getD i 0 < a.getD k 0 ∨ a.getD i 0 = a.getD k 0 ∧ b.getD i 0 < b.getD k 0 := by
  unfold pairL
  rw [rank_lt (by rw [encL_len]; exact hi) (by rw [encL_len]; exact hk), encL_get hi, encL_get hk, enc_lt hl hi hk]
theorem pair_eq {a b : List Int} (hl : a.length = b.length) {i k : Nat} (hi : i < a.length) (hk : k < a.length) : (pairL a b).getD i 0 = (pairL a b).getD k 0 ↔ a.getD i 0 = a.getD k 0 ∧ b.getD i 0 = b.getD k 0 := by
  unfold pairL
  rw [rank_eq (by rw [encL_len]; exact hi) (by rw [encL_len]; exact hk), encL_get hi, encL_get hk, enc_eq hl hi hk]
theorem map_getD {f : Int → Int} {p : List Int} {j : Nat} (h : j < p.length) : (p.map f).getD j 0 = f (p.getD j 0) := by simp [List.getD, h]
theorem nxt_get {l : List Int} {j : Nat} (h : j < (nxt l).length) : (nxt l).getD j 0 = (enc3 l (pls l.length 2)).getD j 0 + 1 := by
  unfold nxt at *
  rw [List.length_map] at h
  exact map_getD h
theorem nxt_pos (l : List Int) : ∀ x ∈ nxt l, 1 ≤ x := by
  intro x hx
  unfold nxt at hx
  obtain ⟨y, hy, rfl⟩ := List.mem_map.1 hx
  obtain ⟨j, hj, rfl⟩ := List.getElem_of_mem hy
  have := (rank_range (l := encL ((pls l.length 2).map (fun i => l.getD i.toNat 0)) (pairL ((pls l.length 2).map (fun i => l.getD (i.toNat + 1) 0)) ((pls l.length 2).map (fun i => l.getD (i.toNat + 2) 0)))) (i := j) (by rw [← rankL_len]; exact hj)).1
  have e : (enc3 l (pls l.length 2)).getD j 0 = (enc3 l (pls l.length 2))[j] := by simp [List.getD, List.getElem?_eq_getElem hj]
  rw [← e]
  show 1 ≤ (rankL _).getD j 0 + 1
  omega
theorem nxt_lt {l : List Int} {j k : Nat} (hj : j < (nxt l).length) (hk : k < (nxt l).length) : (nxt l).getD j 0 < (nxt l).getD k 0 ↔ lex3 l (plP l.length j) (plP l.length k) := by
  rw [nxt_get hj, nxt_get hk]
  have hj' : j < (pls l.length 2).length := by rw [nxt_len, ← pls_len] at hj; exact hj
  have hk' : k < (pls l.length 2).length := by rw [nxt_len, ← pls_len] at hk; exact hk
  have gj := pls_get (by rw [← pls_len]; exact hj')
  have gk := pls_get (by rw [← pls_len]; exact hk')
  have h0 : (enc3 l (pls l.length 2)).getD j 0 + 1 < (enc3 l (pls l.length 2)).getD k 0 + 1 ↔ (enc3 l (pls l.length 2)).getD j 0 < (enc3 l (pls l.length 2)).getD k 0 := by omega
  rw [h0]
  unfold enc3
  rw [pair_lt (by unfold pairL; rw [rankL_len, encL_len]; simp) (by simpa using hj') (by simpa using hk'), pair_lt (by simp) (by simpa using hj') (by simpa using hk')]
  simp only [map_getD hj', map_getD hk', gj, gk, Int.toNat_natCast]
  rfl
theorem nxt_eq {l : List Int} {j k : Nat} (hj : j < (nxt l).length) (hk : k < (nxt l).length) : (nxt l).getD j 0 = (nxt l).getD k 0 ↔ eq3 l (plP l.length j) (plP l.length k) := by
  rw [nxt_get hj, nxt_get hk]
  have hj' : j < (pls l.length 2).length := by rw [nxt_len, ← pls_len] at hj; exact hj
  have hk' : k < (pls l.length 2).length := by rw [nxt_len, ← pls_len] at hk; exact hk
  have gj := pls_get (by rw [← pls_len]; exact hj')
  have gk := pls_get (by rw [← pls_len]; exact hk')
  have h0 : (enc3 l (pls l.length 2)).getD j 0 + 1 = (enc3 l (pls l.length 2)).getD k 0 + 1 ↔ (enc3 l (pls l.length 2)).getD j 0 = (enc3 l (pls l.length 2)).getD k 0 := by omega
  rw [h0]
  unfold enc3
  rw [pair_eq (by unfold pairL; rw [rankL_len, encL_len]; simp) (by simpa using hj') (by simpa using hk'), pair_eq (by simp) (by simpa using hj') (by simpa using hk')]
  simp only [map_getD hj', map_getD hk', gj, gk, Int.toNat_natCast]
  rfl
theorem smp_spec {l next : List Int} (hl : ∀ x ∈ l, 1 ≤ x) (h : IsSA (nxt l) next) : IsSm l (smp l next) := by
  have hn := nxt_len l
  have hs := samp hl (nxt_pos l) (plP l.length) (fun j hj => plP_le (by omega)) (fun j k _ _ he => plP_inj he) (fun j hj he => by rw [hn] at hj ⊢; exact plP_step hj he) (fun j k hj hk => nxt_lt hj hk) (fun j k hj hk => nxt_eq hj hk)
  refine ⟨?_, fun x => ?_⟩
  · unfold smp
    rw [List.pairwise_map]
    refine List.Pairwise.imp_of_mem (fun {a b} ha hb hab => ?_) h.1
    have h1 := (h.2 a).1 ha
    have h2 := (h.2 b).1 hb
    unfold Rs
    rw [pls_get (by omega), pls_get (by omega), Int.toNat_natCast, Int.toNat_natCast]
    exact (hs _ a.toNat b.toNat (Nat.le_refl _) (by omega) (by omega)).1 hab
  · unfold smp
    rw [List.mem_map]
    constructor
    · rintro ⟨a, ha, rfl⟩
      have h1 := (h.2 a).1 ha
      have h4 := plP_le (n := l.length) (j := a.toNat) (by omega)
      have h5 := plP_3 (n := l.length) (j := a.toNat)
      rw [pls_get (by omega)]
      omega
    · rintro ⟨h1, h2, h3⟩
      obtain ⟨j, hj, e⟩ := plP_all (n := l.length) (p := x.toNat) (by omega) (by omega)
      refine ⟨(j : Int), (h.2 _).2 (by omega), ?_⟩
      rw [Int.toNat_natCast, pls_get hj, e]; omega
end Go.Proofs.YtpjncojljamacaaGreat.AM

set_option linter.unusedVariables false
set_option linter.unusedSimpArgs false
namespace Go.Proofs.YtpjncojljamacaaGreat.AM

def oneL (n : Nat) (Nx : List Int) : List Int := (Nx.filter (fun (p : Int) => decide (p % 3 = 1 ∧ p - 1 < n))).map (· - 1)
def twoL (n : Nat) (Nx : List Int) : List Int := Nx.filter (fun (p : Int) => decide (p < n))
def frL (l o : List Int) : List Int := o.map (fun i => l.getD i.toNat 0)
def rrL (l o : List Int) : List Int := pairL (frL l o) (idL o.length)
def srF (rr o : List Int) : Nat → Nat → Int
  | 0, _ => 0
  | k + 1, q => if rr.getD k 0 = (q : Int) then o.getD k 0 else srF rr o k q
def srL (l o : List Int) : List Int := (List.range o.length).map (fun (q : Nat) => srF (rrL l o) o o.length q)
theorem srF_spec {rr o : List Int} {m : Nat} (hn : ∀ i j, i < m → j < m → rr.getD i 0 = rr.getD j 0 → i = j) : ∀ {i k q : Nat}, i ≤ m → k < i → rr.getD k 0 = (q : Int) → srF rr o i q = o.getD k 0
  | 0, k, q, _, hk, _ => by omega
  | i + 1, k, q, hi, hk, hp => by
    rw [srF]
    by_cases h : rr.getD i 0 = (q : Int)
    · rw [if_pos h, hn i k (by omega) (by omega) (h.trans hp.symm)]
    · rw [if_neg h]
      have : k ≠ i := fun e => h (e ▸ hp)
      exact srF_spec hn (by omega) (by omega) hp
theorem frL_len (l o : List Int) : (frL l o).length = o.length := by simp [frL]
theorem rrL_len (l o : List Int) : (rrL l o).length = o.length := by unfold rrL pairL; rw [rankL_len, encL_len, frL_len]
theorem rrL_lt {l o : List Int} {i k : Nat} (hi : i < o.length) (hk : k < o.length) : (rrL l o).getD i 0 < (rrL l o).getD k 0 ↔ l.getD (o.getD i 0).toNat 0 < l.getD (o.getD k 0).toNat 0 ∨ l.getD (o.getD i 0).toNat 0 = l.getD (o.getD k 0).toNat 0 ∧ i < k := by
  unfold rrL
  rw [pair_lt (by rw [frL_len, idL_len]) (by rw [frL_len]; exact hi) (by rw [frL_len]; exact hk), idL_get hi, idL_get hk]
  unfold frL
  rw [map_getD hi, map_getD hk]
  omega
theorem rrL_inj {l o : List Int} {i k : Nat} (hi : i < o.length) (hk : k < o.length) (h : (rrL l o).getD i 0 = (rrL l o).getD k 0) : i = k := by
  unfold rrL at h
  rw [pair_eq (by rw [frL_len, idL_len]) (by rw [frL_len]; exact hi) (by rw [frL_len]; exact hk), idL_get hi, idL_get hk] at h
  omega
theorem rrL_range {l o : List Int} {i : Nat} (hi : i < o.length) : 0 ≤ (rrL l o).getD i 0 ∧ (rrL l o).getD i 0 < o.length := by
  have h1 := rank_range (l := encL (frL l o) (idL o.length)) (i := i) (by rw [encL_len, frL_len]; exact hi)
  have h2 := setI_len (encL (frL l o) (idL o.length))
  rw [encL_len, frL_len] at h2
  unfold rrL pairL
  omega
theorem rrL_all (l o : List Int) {q : Nat} (hq : q < o.length) : ∃ k, k < o.length ∧ (rrL l o).getD k 0 = (q : Int) := by
  have hlen := rrL_len l o
  have e : ∀ i (hi : i < (rrL l o).length), (rrL l o).getD i 0 = (rrL l o)[i] := fun i hi => by simp [List.getD, List.getElem?_eq_getElem hi]
  have hp := pigeon (rrL l o) (idL o.length) (by
    rw [List.nodup_iff_pairwise_ne, List.pairwise_iff_getElem]
    intro i j hi hj hij h
    have := rrL_inj (l := l) (o := o) (i := i) (k := j) (by omega) (by omega) (by rw [e i hi, e j hj]; exact h)
    omega) (fun x hx => by
    obtain ⟨i, hi, rfl⟩ := List.getElem_of_mem hx
    have := rrL_range (l := l) (o := o) (i := i) (by omega)
    rw [e i hi] at this
    unfold idL
    rw [List.mem_map]
    exact ⟨((rrL l o)[i]).toNat, by rw [List.mem_range]; omega, by omega⟩) (by rw [idL_len, hlen]; exact Nat.le_refl _)
  have hm : (q : Int) ∈ rrL l o := hp.mem_iff.2 (by unfold idL; rw [List.mem_map]; exact ⟨q, List.mem_range.2 hq, rfl⟩)
  obtain ⟨k, hk, ek⟩ := List.getElem_of_mem hm
  exact ⟨k, by omega, (e k hk).trans ek⟩
theorem srL_len (l o : List Int) : (srL l o).length = o.length := by simp [srL]
theorem srL_at {l o : List Int} {k q : Nat} (hk : k < o.length) (hq : q < o.length) (h : (rrL l o).getD k 0 = (q : Int)) : (srL l o).getD q 0 = o.getD k 0 := by
  unfold srL
  rw [range_atQ hq]
  exact srF_spec (fun i j hi hj he => rrL_inj hi hj he) (Nat.le_refl _) hk h
theorem getD_el {l : List Int} {i : Nat} (h : i < l.length) : l.getD i 0 = l[i] := by simp [List.getD, List.getElem?_eq_getElem h]
theorem srL_mem {l o : List Int} (x : Int) : x ∈ srL l o ↔ x ∈ o := by
  have hlen := srL_len l o
  constructor
  · intro h
    obtain ⟨q, hq, rfl⟩ := List.getElem_of_mem h
    obtain ⟨k, hk, hr⟩ := rrL_all l o (q := q) (by omega)
    rw [← getD_el hq, srL_at hk (by omega) hr]
    exact getD_mem hk
  · intro h
    obtain ⟨k, hk, rfl⟩ := List.getElem_of_mem h
    have hr := rrL_range (l := l) (o := o) hk
    have := srL_at (l := l) (o := o) (k := k) (q := ((rrL l o).getD k 0).toNat) hk (by omega) (by omega)
    rw [← getD_el hk, ← this]
    exact getD_mem (by omega)
theorem srL_pw {l o : List Int} (hl : ∀ x ∈ l, 1 ≤ x) (ho : ∀ x ∈ o, 0 ≤ x ∧ x < l.length) (hp : o.Pairwise (fun x y => Rs l (x + 1) (y + 1))) : (srL l o).Pairwise (Rs l) := by
  have hlen := srL_len l o
  rw [List.pairwise_iff_getElem]
  intro q q' hq hq' hqq
  obtain ⟨k, hk, hr⟩ := rrL_all l o (q := q) (by omega)
  obtain ⟨k', hk', hr'⟩ := rrL_all l o (q := q') (by omega)
  rw [← getD_el hq, ← getD_el hq', srL_at hk (by omega) hr, srL_at hk' (by omega) hr']
  have h1 := ho _ (getD_mem hk)
  have h2 := ho _ (getD_mem hk')
  have hlt := (rrL_lt (l := l) hk hk').1 (by omega)
  unfold Rs
  rw [sl2_step hl (by omega) (by omega)]
  rcases hlt with h | ⟨h, hkk⟩
  · exact .inl h
  · have z := at_zero hl (o.getD k 0).toNat
    have h3 := List.pairwise_iff_getElem.1 hp k k' hk hk' hkk
    rw [← getD_el hk, ← getD_el hk'] at h3
    unfold Rs at h3
    rw [show (o.getD k 0 + 1).toNat = (o.getD k 0).toNat + 1 from by omega, show (o.getD k' 0 + 1).toNat = (o.getD k' 0).toNat + 1 from by omega] at h3
    exact .inr ⟨h, by omega, h3⟩
def endL (l Nx : List Int) : List Int := mrg (fun s t => lessB l (rkF Nx Nx.length) s.toNat t.toNat) (srL l (oneL l.length Nx)) (twoL l.length Nx)
theorem endL_spec {l Nx : List Int} (hl : ∀ x ∈ l, 1 ≤ x) (h : IsSm l Nx) : IsSA l (endL l Nx) := by
  have o1 : ∀ x, x ∈ oneL l.length Nx ↔ 0 ≤ x ∧ x < l.length ∧ x % 3 = 0 := fun x => by
    unfold oneL
    rw [List.mem_map]
    constructor
    · rintro ⟨p, hp, rfl⟩
      rw [List.mem_filter, decide_eq_true_iff] at hp
      have := (h.2 p).1 hp.1
      omega
    · rintro ⟨h1, h2, h3⟩
      refine ⟨x + 1, ?_, by omega⟩
      rw [List.mem_filter, decide_eq_true_iff]
      exact ⟨(h.2 _).2 (by omega), by omega⟩
  have o2 : ∀ x, x ∈ twoL l.length Nx ↔ 0 ≤ x ∧ x < l.length ∧ x % 3 ≠ 0 := fun x => by
    unfold twoL
    rw [List.mem_filter, decide_eq_true_iff, h.2]
    omega
  have op : (oneL l.length Nx).Pairwise (fun x y => Rs l (x + 1) (y + 1)) := by
    unfold oneL
    rw [List.pairwise_map]
    refine (h.1.filter _).imp (fun {a b} hab => ?_)
    rw [show a - 1 + 1 = a from by omega, show b - 1 + 1 = b from by omega]; exact hab
  have key : ∀ x y, x ∈ srL l (oneL l.length Nx) → y ∈ twoL l.length Nx → (lessB l (rkF Nx Nx.length) x.toNat y.toNat = true ↔ Rs l x y) := fun x y hx hy => by
    have h1 := (o1 x).1 ((srL_mem x).1 hx)
    have h2 := (o2 y).1 hy
    exact lessB_spec hl h (by omega) (by omega) (by omega) (by omega)
  refine ⟨mrg_pw (R := Rs l) (fun x y z => Rs_trans) _ _ _ (srL_pw hl (fun x hx => by have := (o1 x).1 hx; omega) op) (h.1.filter _) (fun x y hx hy e => (key x y hx hy).1 e) (fun x y hx hy e => ?_), fun x => ?_⟩
  · have h1 := (o1 x).1 ((srL_mem x).1 hx)
    have h2 := (o2 y).1 hy
    rcases sl2_tri (l := l) (i := x.toNat) (k := y.toNat) (by omega) (by omega) with g | g | g
    · rw [(key x y hx hy).2 g] at e; cases e
    · omega
    · exact g
  · unfold endL
    rw [mrg_mem, srL_mem, o1, o2]
    omega
end Go.Proofs.YtpjncojljamacaaGreat.AM
