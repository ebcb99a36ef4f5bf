
/- Chapter 16: blocks, last children, counts, plainly. No condition. -/
import Derived.Test.YtnijpeeehnnipaaYK
set_option linter.unusedVariables false
set_option linter.unusedSimpArgs false
namespace Go.Proofs.Ytnijpeeehnnipaa.AM
open Go Go.RowKit

def nlf (t : Tr) (i : Int) : Bool := !leafB t i
theorem nlf_iff {t : Tr} {i : Int} : nlf t i = true ↔ chT t i ≠ [] := by
  unfold nlf leafB
  rw [Bool.not_eq_true', decide_eq_false_iff_not, List.length_eq_zero_iff]
def lstM (t : Tr) (p : Int) : List Bool := (chT t p).map (lastB t)
theorem chT_sorted {t : Tr} {p : Int} {i j : Nat} (hij : i < j) (hj : j < (chT t p).length) : (chT t p).getD i 0 < (chT t p).getD j 0 := pair_get (chT_pw t p) hij hj
theorem last_at {t : Tr} {p : Int} {j : Nat} (hj : j < (chT t p).length) : lastB t ((chT t p).getD j 0) = decide (j + 1 = (chT t p).length) := by
  have hm := getD_mem hj
  obtain ⟨h0, k, hk, h1, h2⟩ := chT_mem.1 hm
  rw [hk, Bool.eq_iff_iff, lastB_iff, decide_eq_true_eq]
  constructor
  · intro h
    by_cases c : j + 1 < (chT t p).length
    · have hs := chT_sorted (t := t) (p := p) (Nat.lt_succ_self j) c
      obtain ⟨_, k', hk', g1, g2⟩ := chT_mem.1 (getD_mem c)
      rw [hk, hk'] at hs
      exact absurd (by rw [g2, h2]) (h k' (by omega) g1)
    · omega
  · intro e k' h3 h4 h5
    have hm' : (k' : Int) ∈ chT t p := chT_mem.2 ⟨h0, k', rfl, h4, by rw [h5, h2]⟩
    obtain ⟨j', hj', e'⟩ := List.getElem_of_mem hm'
    rw [← getD_el hj'] at e'
    rcases Nat.lt_trichotomy j' j with g | g | g
    · have := chT_sorted (t := t) (p := p) g hj
      omega
    · subst g; omega
    · omega
theorem lstM_eq (t : Tr) (p : Int) : lstM t p = if chT t p = [] then [] else List.replicate ((chT t p).length - 1) false ++ [true] := by
  by_cases h : chT t p = []
  · unfold lstM; rw [if_pos h, h]; rfl
  · have hl := List.length_pos_iff.2 h
    rw [if_neg h]
    refine List.ext_getElem (by unfold lstM; simp; omega) (fun j h1 h2 => ?_)
    unfold lstM at h1 ⊢
    rw [List.length_map] at h1
    rw [List.getElem_map, ← getD_el h1, last_at h1]
    by_cases c : j + 1 = (chT t p).length
    · rw [decide_eq_true c, List.getElem_append_right (by simp; omega)]
      simp
    · rw [decide_eq_false c, List.getElem_append_left (by simp; omega)]
      simp
theorem lstM_cnt (t : Tr) (p : Int) : (lstM t p).countP id = if nlf t p = true then 1 else 0 := by
  rw [lstM_eq]
  by_cases h : chT t p = []
  · rw [if_pos h, if_neg (fun g => nlf_iff.1 g h)]; rfl
  · rw [if_neg h, if_pos (nlf_iff.2 h), List.countP_append, List.countP_replicate]
    simp
theorem cnt_flat {α β : Type} (q : β → Bool) (r : α → Bool) (f : α → List β) : ∀ l : List α, (∀ a ∈ l, (f a).countP q = if r a = true then 1 else 0) → (l.flatMap f).countP q = l.countP r
  | [], _ => rfl
  | a :: l, h => by
    rw [List.flatMap_cons, List.countP_append, List.countP_cons, h a (by simp), cnt_flat q r f l (fun b hb => h b (by simp [hb]))]
    omega
theorem seg_cnt (t : Tr) (l : List Int) : (l.flatMap (lstM t)).countP id = l.countP (nlf t) := cnt_flat _ _ _ l (fun p _ => lstM_cnt t p)
theorem seg_end (t : Tr) : ∀ (l : List Int) (q : Nat), q < (l.flatMap (lstM t)).length → 0 < ((l.flatMap (lstM t)).drop q).countP id
  | [], q, h => absurd h (Nat.not_lt_zero _)
  | p :: l, q, h => by
    rw [List.flatMap_cons] at h ⊢
    rw [List.drop_append, List.countP_append]
    by_cases c : q < (lstM t p).length
    · have : 0 < ((lstM t p).drop q).countP id := by
        have he := lstM_eq t p
        by_cases h0 : chT t p = []
        · rw [if_pos h0] at he; rw [he] at c; exact absurd c (Nat.not_lt_zero _)
        · rw [if_neg h0] at he
          rw [he] at c ⊢
          rw [List.drop_append, List.countP_append]
          have hq : q - (List.replicate ((chT t p).length - 1) false).length = 0 := by
            rw [List.length_append, List.length_replicate, List.length_singleton] at c
            rw [List.length_replicate]; omega
          rw [hq]
          simp
      omega
    · have := seg_end t l (q - (lstM t p).length) (by rw [List.length_append] at h; omega)
      omega
theorem map_flat (t : Tr) (l : List Int) : (l.flatMap (chT t)).map (lastB t) = l.flatMap (lstM t) := by
  rw [List.map_flatMap]; rfl
/-! ### blocks -/
def Blk (t : Tr) (c : Nat) : List Int := (bySy t c).flatMap (chT t)
def fstB (t : Tr) (c : Nat) : List Int := rootL t ++ (List.range c).flatMap (Blk t)
def rstB (t : Tr) (c : Nat) : List Int := ((List.range (2 * t.names.length + 1 - c)).map (c + ·)).flatMap (Blk t)
theorem ordS_blk (t : Tr) : (ordS t).flatMap (chT t) = (List.range (2 * t.names.length + 1)).flatMap (Blk t) := by
  unfold ordS
  rw [List.flatMap_assoc]; rfl
theorem ord_split {t : Tr} (ht : TOk t) {c : Nat} (hc : c ≤ 2 * t.names.length + 1) : ordL t = fstB t c ++ rstB t c := by
  rw [ord_blocks ht, ordS_blk]
  unfold fstB rstB
  obtain ⟨d, hd⟩ : ∃ d, 2 * t.names.length + 1 = c + d := ⟨2 * t.names.length + 1 - c, by omega⟩
  rw [hd, List.range_add, List.flatMap_append, Nat.add_sub_cancel_left, List.append_assoc]
theorem rstB_next (t : Tr) {c : Nat} (hc : c < 2 * t.names.length + 1) : rstB t c = Blk t c ++ rstB t (c + 1) := by
  unfold rstB
  obtain ⟨d, hd⟩ : ∃ d, 2 * t.names.length + 1 - c = d + 1 := ⟨2 * t.names.length - c, by omega⟩
  rw [hd, show 2 * t.names.length + 1 - (c + 1) = d by omega, List.range_succ_eq_map, List.map_cons, List.flatMap_cons, List.map_map]
  congr 2
  refine List.map_congr_left (fun x _ => ?_)
  simp only [Function.comp]
  omega
theorem fstB_next (t : Tr) (c : Nat) : fstB t (c + 1) = fstB t c ++ Blk t c := by
  unfold fstB
  rw [List.range_succ, List.flatMap_append, List.append_assoc]
  simp
theorem blk_mem {t : Tr} {c : Nat} {x : Int} (h : x ∈ Blk t c) : 0 ≤ parF t x ∧ symF t (parF t x) = c := by
  unfold Blk bySy at h
  rw [List.mem_flatMap] at h
  obtain ⟨p, h1, h2⟩ := h
  rw [List.mem_filter, decide_eq_true_eq] at h1
  obtain ⟨a1, a2, _⟩ := chT_up h2
  rw [a1]; exact ⟨a2, h1.2⟩
def pcB (t : Tr) (c : Int) (x : Int) : Bool := decide (parF t x < 0) || decide (symF t (parF t x) < c)
theorem beg_cnt (t : Tr) (c : Int) (n : Nat) : begN t c n = (idL n).countP (pcB t c) := by
  unfold begN idL
  rw [List.countP_map]; rfl
theorem fstB_len {t : Tr} (ht : TOk t) {c : Nat} (hc : c ≤ 2 * t.names.length + 1) : begC t c = ((fstB t c).length : Nat) := by
  unfold begC
  rw [beg_cnt, ← (ordL_perm t).countP_eq, ord_split ht hc, List.countP_append]
  have h1 : (fstB t c).countP (pcB t c) = (fstB t c).length := by
    rw [List.countP_eq_length]
    intro x hx
    unfold fstB at hx
    unfold pcB
    rw [List.mem_append, List.mem_flatMap] at hx
    rcases hx with hx | ⟨c', hc', hx⟩
    · unfold rootL at hx
      rw [List.mem_filter] at hx
      rw [hx.2]; rfl
    · have := blk_mem hx
      have := List.mem_range.1 hc'
      rw [Bool.or_eq_true, decide_eq_true_eq, decide_eq_true_eq]
      omega
  have h2 : (rstB t c).countP (pcB t c) = 0 := by
    rw [List.countP_eq_zero]
    intro x hx
    unfold rstB at hx
    unfold pcB
    rw [List.mem_flatMap] at hx
    obtain ⟨c', hc', hx⟩ := hx
    obtain ⟨d, _, rfl⟩ := List.mem_map.1 hc'
    have := blk_mem hx
    rw [Bool.or_eq_true, decide_eq_true_eq, decide_eq_true_eq]
    omega
  rw [h1, h2]; rfl
theorem beg_first {t : Tr} (ht : TOk t) : begC t (0 : Nat) = 1 := by
  rw [fstB_len ht (Nat.zero_le _)]
  unfold fstB
  rw [root_one ht]; rfl
theorem beg_last {t : Tr} (ht : TOk t) : begC t (2 * t.names.length + 1 : Nat) = t.len := by
  rw [fstB_len ht (Nat.le_refl _)]
  have h := ord_split ht (Nat.le_refl (2 * t.names.length + 1))
  have e : rstB t (2 * t.names.length + 1) = [] := by unfold rstB; rw [Nat.sub_self]; rfl
  rw [e, List.append_nil] at h
  rw [← h, ordL_len]
theorem beg_step {t : Tr} (ht : TOk t) {c : Nat} (hc : c < 2 * t.names.length + 1) : begC t (c + 1 : Nat) = begC t c + (Blk t c).length := by
  rw [fstB_len ht (c := c + 1) (by omega), fstB_len ht (c := c) (by omega), fstB_next, List.length_append]
  omega
theorem beg_in {t : Tr} (ht : TOk t) {c : Nat} (hc : c ≤ 2 * t.names.length + 1) : 0 ≤ begC t c ∧ begC t c ≤ t.len := by
  rw [fstB_len ht hc]
  have h := congrArg List.length (ord_split ht hc)
  rw [ordL_len, List.length_append] at h
  omega
theorem ord_first {t : Tr} (ht : TOk t) : (ordL t).getD 0 0 = 0 := by
  rw [ord_blocks ht, root_one ht]; rfl
theorem blk_at {t : Tr} (ht : TOk t) {c : Nat} (hc : c < 2 * t.names.length + 1) {k : Nat} (h1 : begC t c ≤ k) (h2 : (k : Int) < begC t (c + 1 : Nat)) : symF t (parF t ((ordL t).getD k 0)) = c := by
  rw [beg_step ht hc, fstB_len ht (c := c) (by omega)] at h2
  rw [fstB_len ht (c := c) (by omega)] at h1
  rw [ord_split ht (c := c) (by omega), rstB_next t hc]
  have e : (fstB t c ++ (Blk t c ++ rstB t (c + 1))).getD k 0 = (Blk t c).getD (k - (fstB t c).length) 0 := by
    rw [List.getD, List.getElem?_append_right (by omega), List.getElem?_append_left (by omega)]; rfl
  rw [e]
  exact (blk_mem (getD_mem (show k - (fstB t c).length < (Blk t c).length by omega))).2
def mnyN (t : Tr) (c : Int) : Nat → Nat
  | 0 => 0
  | i + 1 => mnyN t c i + (if symF t i = c then (chT t i).length else 0)
theorem mnyN_le (t : Tr) (c : Int) : ∀ i, mnyN t c i ≤ i * t.len
  | 0 => Nat.zero_le _
  | i + 1 => by
    have h1 := mnyN_le t c i
    have h2 := chT_len t i
    rw [mnyN, Nat.succ_mul]
    split <;> omega
theorem mny_blk (t : Tr) (c : Nat) : mnyN t c t.len = (Blk t c).length := by
  have h : ∀ n, mnyN t c n = (((idL n).filter (fun p => decide (symF t p = c))).map (fun p => (chT t p).length)).sum := by
    intro n
    induction n with
    | zero => rfl
    | succ n ih =>
      rw [mnyN, ih, idL_succ, List.filter_append, List.map_append, List.sum_append]
      congr 1
      by_cases e : symF t n = c
      · rw [if_pos e]; simp [e]
      · rw [if_neg e]; simp [e]
  rw [h]
  unfold Blk
  rw [List.length_flatMap]
  unfold bySy
  exact ((((ordL_perm t).filter _).map _).sum_nat).symm
/-! ### groups -/
def aheadL (t : Tr) (k c : Nat) : List Int := ((ordL t).take k).filter (fun p => decide (symF t p = c))
theorem group_at {t : Tr} (ht : TOk t) {k c : Nat} (hk : k < t.len) (hc : symF t ((ordL t).getD k 0) = c) :
    ∃ rest, ordL t = fstB t c ++ ((aheadL t k c).flatMap (chT t) ++ (chT t ((ordL t).getD k 0) ++ rest)) := by
  have hcl := symF_le t ((ordL t).getD k 0)
  have hs : bySy t c = aheadL t k c ++ (ordL t).getD k 0 :: ((ordL t).drop (k + 1)).filter (fun p => decide (symF t p = c)) := by
    unfold bySy aheadL
    have hkl : k < (ordL t).length := by rw [ordL_len]; exact hk
    conv => lhs; rw [← List.take_append_drop k (ordL t), List.drop_eq_getElem_cons hkl]
    rw [List.filter_append, List.filter_cons_of_pos (by rw [← getD_el hkl, decide_eq_true_eq]; exact hc), getD_el hkl]
  refine ⟨(((ordL t).drop (k + 1)).filter (fun p => decide (symF t p = c))).flatMap (chT t) ++ rstB t (c + 1), ?_⟩
  conv => lhs; rw [ord_split ht (c := c) (by omega), rstB_next t (c := c) (by omega)]
  unfold Blk
  rw [hs, List.flatMap_append, List.flatMap_cons, List.append_assoc, List.append_assoc]
theorem ahead_cnt (t : Tr) (k c : Nat) : (aheadL t k c).countP (nlf t) = ((ordL t).take k).countP (fun p => decide (symF t p = c) && nlf t p) := by
  unfold aheadL
  rw [List.countP_filter]
  refine List.countP_congr (fun x _ => ?_)
  rw [Bool.and_comm]
/-! ### counts -/
theorem last_all {t : Tr} (ht : TOk t) : (ordL t).countP (lastB t) = 1 + (ordL t).countP (nlf t) := by
  have h1 : (ordL t).countP (nlf t) = (ordS t).countP (nlf t) := by rw [(ordL_perm t).countP_eq, (ordS_perm ht).countP_eq]
  rw [h1]
  conv => lhs; rw [ord_blocks ht, root_one ht, List.countP_append]
  congr 1
  · have : lastB t (0 : Nat) = true := lastB_iff.2 (fun j h2 h3 h4 => by
      have := ht.par j h2 h3
      have := parF_cases t (0 : Nat)
      omega)
    have e : lastB t 0 = true := this
    simp [e]
  · rw [← seg_cnt, ← map_flat, List.countP_map]
    rfl
end Go.Proofs.Ytnijpeeehnnipaa.AM
