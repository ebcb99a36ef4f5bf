
/- Chapter 8: the turned row, plainly. No condition. -/
import Derived.Test.YtejhomoafhnipaaS17
set_option linter.unusedVariables false
set_option linter.unusedSimpArgs false
set_option maxRecDepth 20000
namespace Go.Proofs.Ytejhomoafhnipaa.AM
open Go Go.RowKit

def kyF (b : List Int) (i : Nat) : Nat := ((rankL b).getD i 0).toNat
theorem ky_lt {b : List Int} {i k : Nat} (hi : i < b.length) (hk : k < b.length) : kyF b i < kyF b k ↔ b.getD i 0 < b.getD k 0 := by
  have h1 := (rank_range hi).1
  have h2 := (rank_range hk).1
  rw [← rank_lt hi hk]
  unfold kyF; omega
theorem ky_eq {b : List Int} {i k : Nat} (hi : i < b.length) (hk : k < b.length) : kyF b i = kyF b k ↔ b.getD i 0 = b.getD k 0 := by
  have h1 := ky_lt hi hk
  have h2 := ky_lt hk hi
  omega
def boL (b : List Int) : List Int := stabG (kyF b) b.length
theorem boL_len (b : List Int) : (boL b).length = b.length := stabG_len _ _
theorem boL_all (b : List Int) : allB (boL b) = true := stabG_all _ _
theorem boL_rng {b : List Int} {r : Nat} (h : r < b.length) : 0 ≤ (boL b).getD r 0 ∧ (boL b).getD r 0 < b.length := by
  have := (allB_pm (boL_all b)).rng r (by rw [boL_len]; exact h)
  rwa [boL_len] at this
theorem boL_next {b : List Int} {i x y : Nat} (hi : i + 1 < b.length) (hx : (boL b).getD i 0 = x) (hy : (boL b).getD (i + 1) 0 = y) : b.getD x 0 < b.getD y 0 ∨ (b.getD x 0 = b.getD y 0 ∧ x < y) := by
  obtain ⟨h1, h2, h3⟩ := stabG_next (kyF b) hi hx hy
  rw [ky_lt h1 h2, ky_eq h1 h2] at h3
  exact h3
theorem bo_unique {b D : List Int} (hp : allB D = true) (hl : D.length = b.length) (hn : ∀ i x y : Nat, i + 1 < b.length → x < b.length → y < b.length → D.getD i 0 = x → D.getD (i + 1) 0 = y → b.getD x 0 < b.getD y 0 ∨ (b.getD x 0 = b.getD y 0 ∧ x < y)) : D = boL b := by
  have hpp := allB_perm hp
  rw [hl] at hpp
  refine stab_unique hpp (fun i x y hi hx hy => ?_)
  have h1 := (allB_pm hp).rng i (by omega)
  have h2 := (allB_pm hp).rng (i + 1) (by omega)
  rw [ky_lt (by omega) (by omega), ky_eq (by omega) (by omega)]
  exact hn i x y hi (by omega) (by omega) hx hy
theorem pigeon_le (l1 l2 : List Int) (hn : l1.Nodup) (h : ∀ x ∈ l1, x ∈ l2) : l1.length ≤ l2.length := by
  rcases Nat.le_total l1.length l2.length with g | g
  · exact g
  · exact Nat.le_of_eq (pigeon l1 l2 hn h g).length_eq
theorem pair_all {b : List Int} : allB (pairL b (idL b.length)) = true := by
  have hlen : (idL b.length).length = b.length := idL_len _
  have hn : (encL b (idL b.length)).Nodup := by
    rw [List.nodup_iff_pairwise_ne, List.pairwise_iff_getElem]
    intro i j hi hj hij
    rw [encL_len] at hi hj
    rw [← getD_el (by rw [encL_len]; exact hi), ← getD_el (by rw [encL_len]; exact hj), encL_get hi, encL_get hj]
    intro e
    have := ((enc_eq hlen.symm hi hj).1 e).2
    rw [idL_get hi, idL_get hj] at this
    omega
  have hset : b.length ≤ (setI (encL b (idL b.length))).length := by
    have := pigeon_le _ (setI (encL b (idL b.length))) hn (fun x hx => setI_mem.2 hx)
    rwa [encL_len] at this
  refine allB_yes (fun i hi => ?_)
  unfold pairL at hi ⊢
  rw [rankL_len, encL_len] at hi
  exact rank_all (by omega) (by omega)
theorem pair_len (b c : List Int) : (pairL b c).length = b.length := by unfold pairL; rw [rankL_len, encL_len]
theorem pair_bo (b : List Int) : invL (pairL b (idL b.length)) = boL b := by
  have hlen : (idL b.length).length = b.length := idL_len _
  have hpa := pair_all (b := b)
  have hal := invL_all hpa
  have hback := invL_back hpa
  refine bo_unique hal (by rw [invL_len, pair_len]) (fun i x y hi hx' hy' hx hy => ?_)
  have h1 := invL_at hal (j := i) (by rw [invL_len, pair_len]; omega)
  have h2 := invL_at hal (j := i + 1) (by rw [invL_len, pair_len]; omega)
  rw [hback, hx, Int.toNat_natCast] at h1
  rw [hback, hy, Int.toNat_natCast] at h2
  have h3 : (pairL b (idL b.length)).getD x 0 < (pairL b (idL b.length)).getD y 0 := by omega
  unfold pairL at h3
  rw [rank_lt (by rw [encL_len]; exact hx') (by rw [encL_len]; exact hy'), encL_get hx', encL_get hy', enc_lt hlen.symm hx' hy', idL_get hx', idL_get hy'] at h3
  omega

/-! ### a row and its turned row -/
def ahd (l : List Int) (i : Nat) : Int := if i = 0 then -1 else l.getD (i - 1) 0
def rwN (l : List Int) (r : Nat) : Nat := if r = 0 then l.length else ((saL l).getD (r - 1) 0).toNat
def rkS (l : List Int) (i : Nat) : Nat := if i = l.length then 0 else rkN l i + 1
def turnL (l : List Int) : List Int := (List.range (l.length + 1)).map (fun r => ahd l (rwN l r))
def nxtS (l : List Int) : List Int := (List.range (l.length + 1)).map (fun r => (rkS l (if r = 0 then 0 else rwN l r + 1) : Int))
theorem turnL_len (l : List Int) : (turnL l).length = l.length + 1 := by simp [turnL]
theorem nxtS_len (l : List Int) : (nxtS l).length = l.length + 1 := by simp [nxtS]
theorem turn_at {l : List Int} {r : Nat} (h : r ≤ l.length) : (turnL l).getD r 0 = ahd l (rwN l r) := by unfold turnL; exact range_at (f := fun r => ahd l (rwN l r)) (by omega)
theorem nxt_at {l : List Int} {r : Nat} (h : r ≤ l.length) : (nxtS l).getD r 0 = (rkS l (if r = 0 then 0 else rwN l r + 1) : Int) := by unfold nxtS; exact range_at (f := fun r => (rkS l (if r = 0 then 0 else rwN l r + 1) : Int)) (by omega)
theorem rw_lt {l : List Int} {r : Nat} (h0 : r ≠ 0) (h : r ≤ l.length) : rwN l r < l.length := by
  have := saL_rng l (r := r - 1) (by omega)
  unfold rwN
  rw [if_neg h0]; omega
theorem rw_le {l : List Int} {r : Nat} (h : r ≤ l.length) : rwN l r ≤ l.length := by
  by_cases e : r = 0
  · unfold rwN; rw [if_pos e]; exact Nat.le_refl _
  · exact Nat.le_of_lt (rw_lt e h)
theorem rkS_le {l : List Int} {i : Nat} (h : i ≤ l.length) : rkS l i ≤ l.length := by
  unfold rkS; split
  · omega
  · have := rkN_lt (l := l) (i := i) (by omega); omega
theorem rkS_pos {l : List Int} {i : Nat} (h : i < l.length) : rkS l i ≠ 0 := by unfold rkS; rw [if_neg (by omega)]; omega
theorem rw_rk {l : List Int} {i : Nat} (h : i ≤ l.length) : rwN l (rkS l i) = i := by
  unfold rkS rwN
  by_cases e : i = l.length
  · rw [if_pos e, if_pos rfl]; exact e.symm
  · rw [if_neg e, if_neg (by omega), Nat.add_sub_cancel, sa_rkN (by omega), Int.toNat_natCast]
theorem rk_rw {l : List Int} {r : Nat} (h : r ≤ l.length) : rkS l (rwN l r) = r := by
  by_cases e : r = 0
  · subst e; unfold rwN rkS; rw [if_pos rfl, if_pos rfl]
  · have h1 := rw_lt e h
    unfold rkS
    rw [if_neg (by omega)]
    have h2 := rk_sa (l := l) (r := r - 1) (by omega)
    have h3 : rwN l r = ((saL l).getD (r - 1) 0).toNat := by unfold rwN; rw [if_neg e]
    rw [← h3, rkN_eq h1] at h2
    omega
theorem wl_nil {b : List Int} (h : b ≠ []) : wl [] b = true := by
  cases b with
  | nil => exact absurd rfl h
  | cons => rfl
theorem rkS_wl {l : List Int} {a c : Nat} (ha : a ≤ l.length) (hc : c ≤ l.length) : rkS l a < rkS l c ↔ wl (l.drop a) (l.drop c) = true := by
  by_cases e : a = l.length
  · subst e
    rw [List.drop_length]
    by_cases g : c = l.length
    · subst g; rw [List.drop_length, wl_irr]; simp
    · refine ⟨fun _ => wl_nil (fun e => ?_), fun _ => ?_⟩
      · have := congrArg List.length e; rw [List.length_drop, List.length_nil] at this; omega
      · have := rkS_pos (l := l) (i := c) (by omega)
        unfold rkS at this ⊢; rw [if_pos rfl]; omega
  · by_cases g : c = l.length
    · subst g
      rw [List.drop_length]
      refine ⟨fun h => ?_, fun h => by cases (l.drop a) <;> simp [wl] at h⟩
      unfold rkS at h; rw [if_pos rfl] at h; omega
    · rw [← rkN_wl (by omega) (by omega)]
      unfold rkS
      rw [if_neg e, if_neg g]; omega
theorem turn_mem {l : List Int} (h : ∀ x ∈ l, 0 ≤ x) {i : Nat} (hi : i < l.length) : 0 ≤ l.getD i 0 := h _ (getD_mem hi)
theorem ahd_succ (l : List Int) (i : Nat) : ahd l (i + 1) = l.getD i 0 := by unfold ahd; rw [if_neg (by omega), Nat.add_sub_cancel]
theorem ahd_one {l : List Int} (h : ∀ x ∈ l, 0 ≤ x) {i : Nat} (hi : i ≤ l.length) : -1 ≤ ahd l i ∧ (ahd l i = -1 ↔ i = 0) := by
  cases i with
  | zero => simp [ahd]
  | succ i => rw [ahd_succ]; have := turn_mem h (i := i) (by omega); omega
theorem nxtS_all (l : List Int) : allB (nxtS l) = true := by
  refine allB_yes (fun q hq => ?_)
  rw [nxtS_len] at hq
  have hr := rk_rw (l := l) (r := q) (by omega)
  have hle := rw_le (l := l) (r := q) (by omega)
  cases hi : rwN l q with
  | zero =>
    have : (nxtS l).getD 0 0 = (q : Int) := by rw [nxt_at (Nat.zero_le _), if_pos rfl, ← hi, hr]
    rw [← this]; exact getD_mem (by rw [nxtS_len]; omega)
  | succ i =>
    have h1 := rkS_pos (l := l) (i := i) (by omega)
    have : (nxtS l).getD (rkS l i) 0 = (q : Int) := by rw [nxt_at (rkS_le (by omega)), if_neg h1, rw_rk (by omega), ← hi, hr]
    rw [← this]; exact getD_mem (by rw [nxtS_len]; have := rkS_le (l := l) (i := i) (by omega); omega)
theorem nxt_bo {l : List Int} (h : ∀ x ∈ l, 0 ≤ x) : nxtS l = boL (turnL l) := by
  refine bo_unique (nxtS_all l) (by rw [nxtS_len, turnL_len]) (fun r x y hr hx hy ex ey => ?_)
  rw [turnL_len] at hr hx hy
  rw [nxt_at (by omega)] at ex
  rw [nxt_at (by omega), if_neg (by omega)] at ey
  have hc := rw_lt (l := l) (r := r + 1) (by omega) (by omega)
  have ey' : y = rkS l (rwN l (r + 1) + 1) := by omega
  have ty : (turnL l).getD y 0 = l.getD (rwN l (r + 1)) 0 := by rw [turn_at (by omega), ey', rw_rk (by omega), ahd_succ]
  have hcn := turn_mem h hc
  by_cases e : r = 0
  · rw [if_pos e] at ex
    have ex' : x = rkS l 0 := by omega
    have tx : (turnL l).getD x 0 = -1 := by rw [turn_at (by omega), ex', rw_rk (by omega)]; rfl
    rw [tx, ty]; omega
  · rw [if_neg e] at ex
    have ha := rw_lt (l := l) (r := r) e (by omega)
    have ex' : x = rkS l (rwN l r + 1) := by omega
    have tx : (turnL l).getD x 0 = l.getD (rwN l r) 0 := by rw [turn_at (by omega), ex', rw_rk (by omega), ahd_succ]
    have hw : wl (l.drop (rwN l r)) (l.drop (rwN l (r + 1))) = true := (rkS_wl (by omega) (by omega)).1 (by rw [rk_rw (by omega), rk_rw (by omega)]; omega)
    rw [List.drop_eq_getElem_cons ha, List.drop_eq_getElem_cons hc, wl, ← getD_el, ← getD_el] at hw
    rw [tx, ty]
    by_cases g1 : l.getD (rwN l r) 0 < l.getD (rwN l (r + 1)) 0
    · exact .inl g1
    · by_cases g2 : l.getD (rwN l (r + 1)) 0 < l.getD (rwN l r) 0
      · rw [if_neg g1, if_pos g2] at hw; cases hw
      · rw [if_neg g1, if_neg g2] at hw
        refine .inr ⟨by omega, ?_⟩
        rw [ex', ey']
        exact (rkS_wl (by omega) (by omega)).2 hw
def cycF (D : List Int) : Nat → Nat
  | 0 => 0
  | j + 1 => (D.getD (cycF D j) 0).toNat
theorem cyc_turn {l : List Int} : ∀ {j : Nat}, j ≤ l.length → cycF (nxtS l) (j + 1) = rkS l j
  | 0, _ => by
    show ((nxtS l).getD 0 0).toNat = _
    rw [nxt_at (Nat.zero_le _), if_pos rfl, Int.toNat_natCast]
  | j + 1, h => by
    have ih := cyc_turn (l := l) (j := j) (by omega)
    rw [cycF, ih, nxt_at (rkS_le (by omega)), if_neg (rkS_pos (by omega)), rw_rk (by omega), Int.toNat_natCast]
end Go.Proofs.Ytejhomoafhnipaa.AM
