
/- Chapter 5: codes by rising depths, plainly: none begins another one. No condition. -/
import Derived.Test.YtpjncojljamacaaGreatZA
set_option linter.unusedVariables false
set_option linter.unusedSimpArgs false
namespace Go.Proofs.YtpjncojljamacaaGreat.AM
open Go Go.RowKit

def vlB : List Bool → Nat
  | [] => 0
  | b :: l => (if b = true then 2 ^ l.length else 0) + vlB l
theorem vlB_lt : ∀ l : List Bool, vlB l < 2 ^ l.length
  | [] => by simp [vlB]
  | b :: l => by
    have := vlB_lt l
    rw [vlB, List.length_cons, Nat.pow_succ]
    split <;> omega
theorem vlB_app : ∀ p q : List Bool, vlB (p ++ q) = vlB p * 2 ^ q.length + vlB q
  | [], q => by simp [vlB]
  | b :: p, q => by
    rw [List.cons_append, vlB, vlB, vlB_app p q, List.length_append, Nat.pow_add]
    split
    · rw [Nat.add_mul]; omega
    · rw [Nat.zero_add, Nat.zero_add]
theorem vlB_zero : ∀ n, vlB (List.replicate n false) = 0
  | 0 => rfl
  | n + 1 => by rw [List.replicate_succ, vlB, vlB_zero n]; rfl
theorem vlB_ones : ∀ l : List Bool, l.all id = true → vlB l + 1 = 2 ^ l.length
  | [], _ => rfl
  | b :: l, h => by
    rw [List.all_cons, Bool.and_eq_true] at h
    have := vlB_ones l h.2
    have hb : b = true := h.1
    rw [vlB, if_pos hb, List.length_cons, Nat.pow_succ]
    omega
def nxB : List Bool → List Bool
  | [] => []
  | b :: l => if l.all id = true then (!b) :: List.replicate l.length false else b :: nxB l
theorem nxB_len : ∀ l, (nxB l).length = l.length
  | [] => rfl
  | b :: l => by
    rw [nxB]
    split
    · simp
    · rw [List.length_cons, nxB_len l]; rfl
theorem vlB_nx : ∀ l : List Bool, vlB l + 1 < 2 ^ l.length → vlB (nxB l) = vlB l + 1
  | [], h => by simp [vlB] at h
  | b :: l, h => by
    rw [List.length_cons, Nat.pow_succ] at h
    rw [nxB]
    by_cases c : l.all id = true
    · have h1 := vlB_ones l c
      rw [if_pos c]
      cases b with
      | true => rw [vlB, if_pos rfl] at h; omega
      | false =>
        rw [vlB, vlB, vlB_zero, List.length_replicate]
        simp
        omega
    · rw [if_neg c]
      have hl : vlB l + 1 < 2 ^ l.length := by
        have h2 := vlB_lt l
        by_cases e : vlB l + 1 = 2 ^ l.length
        · exfalso
          apply c
          clear h h2 c
          induction l with
          | nil => rfl
          | cons x l ih =>
            rw [vlB, List.length_cons, Nat.pow_succ] at e
            have h3 := vlB_lt l
            cases x with
            | true => rw [if_pos rfl] at e; rw [List.all_cons, ih (by omega)]; rfl
            | false => rw [if_neg (by decide)] at e; omega
        · omega
      have := vlB_nx l hl
      rw [vlB, vlB, nxB_len, this]
      omega
def cdL : Bool → List Bool → List Nat → List (List Bool)
  | _, _, [] => []
  | fst, cur, d :: ds => ((if fst = true then cur else nxB cur) ++ List.replicate (d - cur.length) false) :: cdL false ((if fst = true then cur else nxB cur) ++ List.replicate (d - cur.length) false) ds
theorem cdL_len : ∀ (ds : List Nat) (fst : Bool) (cur : List Bool), (cdL fst cur ds).length = ds.length
  | [], _, _ => rfl
  | d :: ds, fst, cur => by rw [cdL, List.length_cons, cdL_len ds]; rfl
theorem krf_cons (B d : Nat) (ds : List Nat) : krf B (d :: ds) = 2 ^ (B - d) + krf B ds := rfl
theorem krf_nil (B : Nat) : krf B [] = 0 := rfl
theorem cdL_at (B : Nat) : ∀ (ds : List Nat) (fst : Bool) (cur : List Bool) (S : Nat), ds.Pairwise (· ≤ ·) → (∀ d ∈ ds, d ≤ B ∧ cur.length ≤ d) → (if fst = true then cur = [] ∧ S = 0 else (vlB cur + 1) * 2 ^ (B - cur.length) = S) → S + krf B ds ≤ 2 ^ B →
    ∀ i, i < ds.length → ((cdL fst cur ds).getD i []).length = ds.getD i 0 ∧ vlB ((cdL fst cur ds).getD i []) * 2 ^ (B - ds.getD i 0) = S + krf B (ds.take i)
  | [], _, _, _, _, _, _, _, i, hi => absurd hi (Nat.not_lt_zero _)
  | d :: ds, fst, cur, S, hs, hd, hS, hk, i, hi => by
    rw [List.pairwise_cons] at hs
    obtain ⟨hdB, hdc⟩ := hd d (by simp)
    rw [krf_cons] at hk
    have hpos : 0 < 2 ^ (B - d) := Nat.pow_pos (by decide)
    have hlen : ((if fst = true then cur else nxB cur) ++ List.replicate (d - cur.length) false).length = d := by
      rw [List.length_append, List.length_replicate]
      split
      · omega
      · rw [nxB_len]; omega
    have hval : vlB ((if fst = true then cur else nxB cur) ++ List.replicate (d - cur.length) false) * 2 ^ (B - d) = S := by
      rw [vlB_app, vlB_zero, Nat.add_zero, List.length_replicate, Nat.mul_assoc, ← Nat.pow_add, show d - cur.length + (B - d) = B - cur.length by omega]
      cases fst with
      | true =>
        rw [if_pos rfl] at hS ⊢
        rw [hS.1, hS.2]; simp [vlB]
      | false =>
        rw [if_neg (by decide)] at hS ⊢
        have h1 : vlB cur + 1 < 2 ^ cur.length := by
          by_cases c : vlB cur + 1 < 2 ^ cur.length
          · exact c
          · exfalso
            have h2 : 2 ^ cur.length * 2 ^ (B - cur.length) ≤ (vlB cur + 1) * 2 ^ (B - cur.length) := Nat.mul_le_mul_right _ (by omega)
            rw [← Nat.pow_add, show cur.length + (B - cur.length) = B by omega] at h2
            omega
        rw [vlB_nx cur h1]; exact hS
    rw [cdL]
    generalize (if fst = true then cur else nxB cur) ++ List.replicate (d - cur.length) false = c at *
    match i with
    | 0 => exact ⟨hlen, by simp only [List.getD_cons_zero, List.take_zero, krf_nil, Nat.add_zero]; exact hval⟩
    | i + 1 =>
      have ih := cdL_at B ds false c (S + 2 ^ (B - d)) hs.2 (fun x hx => ⟨(hd x (by simp [hx])).1, by rw [hlen]; exact hs.1 x hx⟩) (by rw [if_neg (by decide), hlen, Nat.add_mul, hval, Nat.one_mul]) (by omega) i (by simpa using hi)
      simp only [List.getD_cons_succ, List.take_succ_cons, krf_cons]
      exact ⟨ih.1, by rw [ih.2]; omega⟩
theorem krf_take_le (B : Nat) : ∀ (ds : List Nat) (i j : Nat), i ≤ j → krf B (ds.take i) ≤ krf B (ds.take j)
  | [], i, j, h => by simp
  | d :: ds, 0, j, h => by simp [krf_nil]
  | d :: ds, i + 1, 0, h => by omega
  | d :: ds, i + 1, j + 1, h => by
    rw [List.take_succ_cons, List.take_succ_cons, krf_cons, krf_cons]
    have := krf_take_le B ds i j (by omega)
    omega
theorem krf_take_succ (B : Nat) : ∀ (ds : List Nat) (i : Nat), i < ds.length → krf B (ds.take (i + 1)) = krf B (ds.take i) + 2 ^ (B - ds.getD i 0)
  | [], i, h => absurd h (Nat.not_lt_zero _)
  | d :: ds, 0, h => by simp [krf]
  | d :: ds, i + 1, h => by
    rw [List.take_succ_cons, List.take_succ_cons, krf_cons, krf_cons, krf_take_succ B ds i (by simpa using h), List.getD_cons_succ]
    omega
theorem cdL_free (B : Nat) (ds : List Nat) (hs : ds.Pairwise (· ≤ ·)) (hd : ∀ d ∈ ds, d ≤ B) (hk : krf B ds ≤ 2 ^ B) {i j : Nat} (hij : i ≠ j) (hi : i < ds.length) (hj : j < ds.length) :
    ¬ (cdL true [] ds).getD i [] <+: (cdL true [] ds).getD j [] := by
  have hat := cdL_at B ds true [] 0 hs (fun d hx => ⟨hd d hx, Nat.zero_le _⟩) (by rw [if_pos rfl]; exact ⟨rfl, rfl⟩) (by omega)
  have main : ∀ i j, i < j → j < ds.length → ¬ (cdL true [] ds).getD i [] <+: (cdL true [] ds).getD j [] := by
    intro i j hij hj ⟨r, hr⟩
    obtain ⟨l1, v1⟩ := hat i (by omega)
    obtain ⟨l2, v2⟩ := hat j hj
    have hdi : ds.getD i 0 ≤ B := hd _ (by simp [List.getD, List.getElem?_eq_getElem (show i < ds.length by omega)])
    have hdj : ds.getD j 0 ≤ B := hd _ (by simp [List.getD, List.getElem?_eq_getElem hj])
    generalize (cdL true [] ds).getD i [] = ci at *
    generalize (cdL true [] ds).getD j [] = cj at *
    subst hr
    rw [List.length_append] at l2
    have h1 := vlB_lt r
    have hstep := krf_take_succ B ds i (by omega)
    have hmono := krf_take_le B ds (i + 1) j (by omega)
    rw [vlB_app, Nat.add_mul, Nat.mul_assoc, ← Nat.pow_add, show r.length + (B - ds.getD j 0) = B - ds.getD i 0 by omega, v1] at v2
    have h2 : vlB r * 2 ^ (B - ds.getD j 0) < 2 ^ r.length * 2 ^ (B - ds.getD j 0) := Nat.mul_lt_mul_of_pos_right h1 (Nat.pow_pos (by decide))
    rw [← Nat.pow_add, show r.length + (B - ds.getD j 0) = B - ds.getD i 0 by omega] at h2
    omega
  rcases Nat.lt_or_gt_of_ne hij with h | h
  · exact main i j h hj
  · rintro ⟨r, hr⟩
    obtain ⟨l1, _⟩ := hat i hi
    obtain ⟨l2, _⟩ := hat j hj
    have hle : ds.getD j 0 ≤ ds.getD i 0 := by
      have := List.pairwise_iff_getElem.1 hs j i hj hi h
      simpa [List.getD, List.getElem?_eq_getElem hi, List.getElem?_eq_getElem hj] using this
    have hlr := congrArg List.length hr
    rw [List.length_append] at hlr
    have hr0 : r = [] := List.length_eq_zero_iff.1 (by omega)
    rw [hr0, List.append_nil] at hr
    exact main j i h hi (by rw [hr]; exact List.prefix_refl _)
end Go.Proofs.YtpjncojljamacaaGreat.AM
