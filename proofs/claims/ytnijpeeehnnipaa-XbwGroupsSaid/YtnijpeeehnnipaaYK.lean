
/- Chapter 16: how the order of nodes is made of their children's lists, plainly. No condition. -/
import Derived.Test.YtnijpeeehnnipaaYJ
set_option linter.unusedVariables false
set_option linter.unusedSimpArgs false
namespace Go.Proofs.Ytnijpeeehnnipaa.AM
open Go Go.RowKit

def ltN (t : Tr) (a b : Int) : Prop := wl (upT t a) (upT t b) = true ∨ (upT t a = upT t b ∧ a < b)
theorem ltN_irr {t : Tr} {a : Int} (h : ltN t a a) : False := by
  rcases h with h | ⟨_, h⟩
  · rw [wl_irr] at h; cases h
  · omega
theorem ltN_asym {t : Tr} {a b : Int} (h : ltN t a b) (k : ltN t b a) : False := by
  rcases h with h | ⟨e, h⟩ <;> rcases k with k | ⟨f, k⟩
  · have := wl_trans h k; rw [wl_irr] at this; cases this
  · rw [f, wl_irr] at h; cases h
  · rw [e, wl_irr] at k; cases k
  · omega
theorem ord_pw (t : Tr) : (ordL t).Pairwise (ltN t) := by
  rw [List.pairwise_iff_getElem]
  intro i j hi hj hij
  rw [ordL_len] at hi hj
  obtain ⟨a, h1, h2, h3⟩ := stabG_who (wK16 t) hi
  obtain ⟨b, g1, g2, g3⟩ := stabG_who (wK16 t) hj
  have e1 : (ordL t)[i] = (a : Int) := by rw [← getD_el (by rw [ordL_len]; exact hi)]; exact h1
  have e2 : (ordL t)[j] = (b : Int) := by rw [← getD_el (by rw [ordL_len]; exact hj)]; exact g1
  rw [e1, e2]
  rcases posK_lex (K := wK16 t) h2 g2 (by omega) with h | ⟨h, h'⟩
  · exact .inl ((wK_iff t h2 g2).1 h)
  · refine .inr ⟨?_, by omega⟩
    rcases wl_tri (upT t a) (upT t b) with w | w | w
    · have := (wK_iff t h2 g2).2 w; omega
    · exact w
    · have := (wK_iff t g2 h2).2 w; omega
theorem idL_pw (n : Nat) : (idL n).Pairwise (· < ·) := by
  unfold idL
  rw [List.pairwise_map]
  exact List.pairwise_lt_range.imp (fun h => by omega)
theorem chT_pw (t : Tr) (p : Int) : (chT t p).Pairwise (· < ·) := by
  unfold chT chN
  split
  · exact (idL_pw t.len).filter _
  · exact List.Pairwise.nil
theorem chT_up {t : Tr} {p x : Int} (h : x ∈ chT t p) : parF t x = p ∧ 0 ≤ p ∧ upT t x = symF t p :: upT t p ∧ 0 ≤ x ∧ x < t.len := by
  obtain ⟨h0, k, rfl, h1, h2⟩ := chT_mem.1 h
  refine ⟨h2, h0, ?_, by omega, by omega⟩
  rw [upT_cons t (by omega), h2]
theorem deep_in {t : Tr} (h : TOk t) {y : Nat} (hy : y < t.len) (hp : 0 ≤ parF t y) : ∀ m z : Nat, z ≤ m → parF t y < z → z < y → (upT t (parF t y)).length < (upT t z).length
  | 0, z, hz, h1, h2 => by omega
  | m + 1, z, hz, h1, h2 => by
    have hpz := h.pre y z h2 hy h1
    have hc := parF_cases t z
    rw [upT_cons t (i := (z : Int)) (by omega), List.length_cons]
    by_cases e : parF t z = parF t y
    · rw [e]; omega
    · obtain ⟨q, hq⟩ : ∃ q : Nat, parF t z = q := ⟨(parF t z).toNat, by omega⟩
      have := deep_in h hy hp m q (by omega) (by omega) (by omega)
      rw [hq]; omega
theorem par_mono {t : Tr} (h : TOk t) {x y : Nat} (hy : y < t.len) (hxy : x < y) (hd : (upT t x).length = (upT t y).length) : parF t x ≤ parF t y := by
  by_cases cx : 0 ≤ parF t x
  · have cy := h.par y (by omega) hy
    by_cases c : parF t y < parF t x
    · obtain ⟨z, hz⟩ : ∃ z : Nat, parF t x = z := ⟨(parF t x).toNat, by omega⟩
      have hc := parF_cases t x
      have := deep_in h hy cy z z (Nat.le_refl _) (by omega) (by omega)
      rw [upT_cons t cx, upT_cons t cy, List.length_cons, List.length_cons, hz] at hd
      omega
    · omega
  · have := parF_cases t x
    have := parF_cases t y
    omega
def rootL (t : Tr) : List Int := (idL t.len).filter (fun k => decide (parF t k < 0))
def bySy (t : Tr) (c : Nat) : List Int := (ordL t).filter (fun p => decide (symF t p = c))
def ordS (t : Tr) : List Int := (List.range (2 * t.names.length + 1)).flatMap (bySy t)
theorem up_lt_cons {t : Tr} {p q x y : Int} (hx : x ∈ chT t p) (hy : y ∈ chT t q) (h : symF t p < symF t q) : ltN t x y := by
  left
  rw [(chT_up hx).2.2.1, (chT_up hy).2.2.1, wl, if_pos h]
theorem up_lt_same {t : Tr} (ht : TOk t) {p q x y : Int} (hx : x ∈ chT t p) (hy : y ∈ chT t q) (h : symF t p = symF t q) (hpq : ltN t p q) : ltN t x y := by
  obtain ⟨a1, a2, a3, a4, a5⟩ := chT_up hx
  obtain ⟨b1, b2, b3, b4, b5⟩ := chT_up hy
  unfold ltN
  rw [a3, b3, h]
  rcases hpq with w | ⟨e, w⟩
  · left; rw [wl, if_neg (Int.lt_irrefl _), if_neg (Int.lt_irrefl _)]; exact w
  · right
    refine ⟨by rw [e], ?_⟩
    by_cases c : x < y
    · exact c
    · exfalso
      by_cases exy : x = y
      · subst exy; omega
      · obtain ⟨x', rfl⟩ : ∃ k : Nat, x = k := ⟨x.toNat, by omega⟩
        obtain ⟨y', rfl⟩ : ∃ k : Nat, y = k := ⟨y.toNat, by omega⟩
        have := par_mono ht (x := y') (y := x') (by omega) (by omega) (by rw [a3, b3, List.length_cons, List.length_cons, e])
        omega
theorem blocks_pw {t : Tr} (ht : TOk t) : (rootL t ++ (ordS t).flatMap (chT t)).Pairwise (ltN t) := by
  have hr : ∀ x ∈ rootL t, upT t x = [] := fun x hx => by
    unfold rootL at hx
    rw [List.mem_filter, decide_eq_true_eq] at hx
    exact upT_nil t hx.2
  rw [List.pairwise_append]
  refine ⟨?_, ?_, fun x hx y hy => ?_⟩
  · have h1 : (rootL t).Pairwise (· < ·) := (idL_pw t.len).filter _
    refine (List.Pairwise.and_mem.1 h1).imp (fun h => ?_)
    exact .inr ⟨by rw [hr _ h.1, hr _ h.2.1], h.2.2⟩
  · rw [List.pairwise_flatMap]
    refine ⟨fun p hp => ?_, ?_⟩
    · refine (List.Pairwise.and_mem.1 (chT_pw t p)).imp (fun h => ?_)
      exact .inr ⟨by rw [(chT_up h.1).2.2.1, (chT_up h.2.1).2.2.1], h.2.2⟩
    · unfold ordS
      rw [List.pairwise_flatMap]
      refine ⟨fun c hc => ?_, ?_⟩
      · unfold bySy
        rw [List.pairwise_filter]
        refine (ord_pw t).imp (fun h h1 h2 => ?_)
        rw [decide_eq_true_eq] at h1 h2
        exact fun x hx y hy => up_lt_same ht hx hy (by rw [h1, h2]) h
      · refine List.pairwise_lt_range.imp (fun h p hp q hq => ?_)
        unfold bySy at hp hq
        rw [List.mem_filter, decide_eq_true_eq] at hp hq
        exact fun x hx y hy => up_lt_cons hx hy (by omega)
  · rw [List.mem_flatMap] at hy
    obtain ⟨p, _, hy⟩ := hy
    left
    rw [hr x hx, (chT_up hy).2.2.1, wl]
theorem ordS_mem {t : Tr} (ht : TOk t) {x : Int} : x ∈ ordS t ↔ 0 ≤ x ∧ x < t.len := by
  unfold ordS bySy
  rw [List.mem_flatMap]
  constructor
  · rintro ⟨c, _, h⟩
    exact ordL_mem t (List.mem_filter.1 h).1
  · rintro ⟨h1, h2⟩
    have hs := ht.sym x h1 h2
    have hl := symF_le t x
    refine ⟨(symF t x).toNat, List.mem_range.2 (by omega), List.mem_filter.2 ⟨?_, by rw [decide_eq_true_eq]; omega⟩⟩
    exact (ordL_perm t).mem_iff.2 (mem_idL.2 ⟨x.toNat, by omega, by omega⟩)
theorem ordS_nodup (t : Tr) : (ordS t).Nodup := by
  have hO : (ordL t).Nodup := (ordL_perm t).nodup_iff.2 (idL_nodup _)
  unfold ordS List.Nodup
  rw [List.pairwise_flatMap]
  refine ⟨fun c _ => hO.filter _, List.pairwise_lt_range.imp (fun h p hp q hq e => ?_)⟩
  unfold bySy at hp hq
  rw [List.mem_filter, decide_eq_true_eq] at hp hq
  subst e
  omega
theorem ordS_perm {t : Tr} (ht : TOk t) : (ordS t).Perm (idL t.len) := by
  refine (List.perm_ext_iff_of_nodup (ordS_nodup t) (idL_nodup _)).2 (fun x => ?_)
  rw [ordS_mem ht, mem_idL]
  exact ⟨fun h => ⟨x.toNat, by omega, by omega⟩, fun ⟨k, h1, h2⟩ => by omega⟩
theorem ord_blocks {t : Tr} (ht : TOk t) : ordL t = rootL t ++ (ordS t).flatMap (chT t) := by
  have hw := blocks_pw ht
  have hn : (rootL t ++ (ordS t).flatMap (chT t)).Nodup := hw.imp (fun h e => by subst e; exact ltN_irr h)
  refine perm_srt_eq (r := ltN t) (fun a b h k => (ltN_asym h k).elim) ?_ (ord_pw t) hw
  refine (ordL_perm t).trans ((List.perm_ext_iff_of_nodup (idL_nodup _) hn).2 (fun x => ?_))
  rw [List.mem_append, List.mem_flatMap, mem_idL]
  constructor
  · rintro ⟨k, hk, rfl⟩
    by_cases c : parF t k < 0
    · left
      unfold rootL
      exact List.mem_filter.2 ⟨mem_idL.2 ⟨k, hk, rfl⟩, decide_eq_true c⟩
    · right
      have := parF_cases t k
      exact ⟨parF t k, (ordS_mem ht).2 (by omega), chT_mem.2 ⟨by omega, k, rfl, hk, rfl⟩⟩
  · rintro (h | ⟨p, _, h⟩)
    · unfold rootL at h
      exact mem_idL.1 (List.mem_filter.1 h).1
    · obtain ⟨_, _, _, h1, h2⟩ := chT_up h
      exact ⟨x.toNat, by omega, by omega⟩
theorem root_one {t : Tr} (ht : TOk t) : rootL t = [0] := by
  unfold rootL
  have hp := ht.pos
  obtain ⟨n, hn⟩ : ∃ n, t.len = n + 1 := ⟨t.len - 1, by omega⟩
  have e : idL t.len = 0 :: (List.range n).map (fun (m : Nat) => ((m + 1 : Nat) : Int)) := by
    rw [hn]
    unfold idL
    rw [List.range_succ_eq_map, List.map_cons, List.map_map]
    rfl
  rw [e, List.filter_cons_of_pos, List.filter_eq_nil_iff.2]
  · intro x hx
    obtain ⟨m, hm, rfl⟩ := List.mem_map.1 hx
    have := ht.par (m + 1) (by omega) (by have := List.mem_range.1 hm; omega)
    rw [decide_eq_true_eq]; omega
  · rw [decide_eq_true_eq]
    have := parF_cases t 0
    omega
end Go.Proofs.Ytnijpeeehnnipaa.AM
