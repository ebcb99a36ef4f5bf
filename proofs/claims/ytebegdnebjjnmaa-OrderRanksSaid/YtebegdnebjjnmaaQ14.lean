
/- Chapter 6: lists that rise. No condition. -/
import Derived.Test.YtebegdnebjjnmaaQ13
set_option linter.unusedVariables false
set_option linter.unusedSimpArgs false
set_option maxRecDepth 20000
namespace Go.Proofs.Ytebegdnebjjnmaa.AM
open Go Go.RowKit

theorem adj_pairwise {r : Int → Int → Prop} (ht : ∀ a b c, r a b → r b c → r a c) {D : List Int} (h : ∀ i, i + 1 < D.length → r (D.getD i 0) (D.getD (i + 1) 0)) : D.Pairwise r := by
  rw [List.pairwise_iff_getElem]
  intro i j hi hj hij
  have key : ∀ d, i + 1 + d < D.length → r (D.getD i 0) (D.getD (i + 1 + d) 0) := by
    intro d
    induction d with
    | zero => intro hd; exact h i hd
    | succ d ih => intro hd; exact ht _ _ _ (ih (by omega)) (h (i + 1 + d) (by omega))
  have := key (j - i - 1) (by omega)
  rw [show i + 1 + (j - i - 1) = j by omega] at this
  simpa [List.getD, List.getElem?_eq_getElem, hi, hj] using this
theorem strict_ext : ∀ {l1 l2 : List Int}, l1.Pairwise (· < ·) → l2.Pairwise (· < ·) → (∀ x, x ∈ l1 ↔ x ∈ l2) → l1 = l2
  | [], [], _, _, _ => rfl
  | [], b :: l2, _, _, h => by have := (h b).2 (by simp); simp at this
  | a :: l1, [], _, _, h => by have := (h a).1 (by simp); simp at this
  | a :: l1, b :: l2, h1, h2, h => by
    rw [List.pairwise_cons] at h1 h2
    have e : a = b := by
      rcases List.mem_cons.1 ((h a).1 (by simp)) with g | g
      · exact g
      · rcases List.mem_cons.1 ((h b).2 (by simp)) with g' | g'
        · exact g'.symm
        · have := h1.1 b g'; have := h2.1 a g; omega
    subst e
    rw [strict_ext h1.2 h2.2 (fun x => ?_)]
    constructor
    · intro hx
      rcases List.mem_cons.1 ((h x).1 (List.mem_cons_of_mem _ hx)) with g | g
      · have := h1.1 x hx; omega
      · exact g
    · intro hx
      rcases List.mem_cons.1 ((h x).2 (List.mem_cons_of_mem _ hx)) with g | g
      · have := h2.1 x hx; omega
      · exact g
/-- A permutation in which each key is no greater than the next one, and of one key the lesser place is ahead. -/
theorem stab_unique {K : Nat → Nat} {n : Nat} {D : List Int} (hp : D.Perm (idL n)) (hn : ∀ i a b : Nat, i + 1 < n → D.getD i 0 = (a : Int) → D.getD (i + 1) 0 = (b : Int) → K a < K b ∨ K a = K b ∧ a < b) : D = stabG K n := by
  have hq := allB_perm (stabG_all K n)
  rw [stabG_len] at hq
  have hl : D.length = n := by rw [hp.length_eq]; simp [idL]
  have hl2 := stabG_len K n
  have adj : ∀ (E : List Int), E.Perm (idL n) → E.length = n → (∀ i a b : Nat, i + 1 < n → E.getD i 0 = (a : Int) → E.getD (i + 1) 0 = (b : Int) → K a < K b ∨ K a = K b ∧ a < b) →
      E.Pairwise (fun x y => K x.toNat < K y.toNat ∨ K x.toNat = K y.toNat ∧ x < y) := by
    intro E hE hEl h
    refine adj_pairwise (fun a b c h1 h2 => by omega) (fun i hi => ?_)
    obtain ⟨a, ha, ea⟩ := mem_idL.1 (hE.mem_iff.1 (getD_mem (l := E) (k := i) (by omega)))
    obtain ⟨b, hb, eb⟩ := mem_idL.1 (hE.mem_iff.1 (getD_mem (l := E) (k := i + 1) (by omega)))
    have := h i a b (by omega) ea eb
    rw [ea, eb, Int.toNat_natCast, Int.toNat_natCast]
    omega
  refine perm_srt_eq (fun a b h1 h2 => by omega) (hp.trans hq.symm) (adj D hp hl hn) (adj _ hq hl2 (fun i a b hi ha hb => (stabG_next K hi ha hb).2.2))
theorem stab_id {K : Nat → Nat} {n : Nat} (h : ∀ i, i + 1 < n → K i ≤ K (i + 1)) : stabG K n = idL n := by
  refine (stab_unique (List.Perm.refl _) (fun i a b hi ha hb => ?_)).symm
  rw [idL_get (by omega)] at ha
  rw [idL_get hi] at hb
  have e1 : a = i := by omega
  have e2 : b = i + 1 := by omega
  subst e1 e2
  have := h a hi
  omega
/-- Ranks of ranks. -/
theorem set_rank (l : List Int) : setI (rankL l) = idL (setI l).length := by
  refine strict_ext (setI_pair _) ?_ (fun x => ?_)
  · unfold idL
    rw [List.pairwise_map]
    exact List.pairwise_lt_range.imp (fun h => by omega)
  · rw [setI_mem, mem_idL]
    constructor
    · intro hx
      obtain ⟨i, hi, e⟩ := List.mem_iff_getElem.1 hx
      rw [rankL_len] at hi
      have := rank_range hi
      have e2 : (rankL l).getD i 0 = x := by
        simp only [List.getD, List.getElem?_eq_getElem (show i < (rankL l).length by rw [rankL_len]; exact hi), Option.getD_some, e]
      exact ⟨x.toNat, by omega, by omega⟩
    · rintro ⟨k, hk, rfl⟩
      exact rank_all (by omega) (by omega)
theorem idL_len (n : Nat) : (idL n).length = n := by simp [idL]
theorem rank_rank (l : List Int) : rankL (rankL l) = rankL l := by
  refine getD_ext (by rw [rankL_len]) (fun k hk => ?_)
  rw [rankL_len, rankL_len] at hk
  rw [rank_get (by rw [rankL_len]; exact hk), set_rank]
  have h := rank_range hk
  have hp : (idL (setI l).length).Pairwise (· < ·) := by rw [← set_rank]; exact setI_pair _
  have := find_at hp (j := ((rankL l).getD k 0).toNat) (by rw [idL_len]; omega)
  rw [idL_get (by omega), show ((((rankL l).getD k 0).toNat : Nat) : Int) = (rankL l).getD k 0 by omega] at this
  rw [this]; omega
/-- Keys in the order that is told. -/
def pickL (p m : List Int) : List Int := p.map fun i => m.getD i.toNat 0
theorem pickL_get {p m : List Int} {i : Nat} (h : i < p.length) : (pickL p m).getD i 0 = m.getD (p.getD i 0).toNat 0 := by
  unfold pickL
  simp [List.getD, List.getElem?_eq_getElem h]
theorem stab_sorted (m : List Int) : stabL (pickL (stabL m) m) = idL m.length := by
  have hl := stabL_len m
  unfold stabL at hl ⊢
  have hpl : (pickL (stabG (keyN m) m.length) m).length = m.length := by unfold pickL; rw [List.length_map, hl]
  rw [hpl]
  refine stab_id (fun i hi => ?_)
  obtain ⟨a, ha, _, _⟩ := stabG_who (keyN m) (n := m.length) (p := i) (by omega)
  obtain ⟨b, hb, _, _⟩ := stabG_who (keyN m) (n := m.length) (p := i + 1) hi
  have := (stabG_next (keyN m) hi ha hb).2.2
  have e1 : (pickL (stabG (keyN m) m.length) m).getD i 0 = m.getD a 0 := by rw [pickL_get (by omega), ha, Int.toNat_natCast]
  have e2 : (pickL (stabG (keyN m) m.length) m).getD (i + 1) 0 = m.getD b 0 := by rw [pickL_get (by omega), hb, Int.toNat_natCast]
  show ((pickL (stabG (keyN m) m.length) m).getD i 0).toNat ≤ ((pickL (stabG (keyN m) m.length) m).getD (i + 1) 0).toNat
  rw [e1, e2]
  unfold keyN at this
  omega
end Go.Proofs.Ytebegdnebjjnmaa.AM
