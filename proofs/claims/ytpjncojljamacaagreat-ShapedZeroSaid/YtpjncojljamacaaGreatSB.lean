
/- slices.Backward of a row of levels (two rows of numbers each). Chapter 7: small functions. No condition but lengths that fit. Chapter 7: which of two suffixes comes first. Chapter 7: a level's end. Chapter 7: where the way down ends, and that ranks have the order of the numbers, plainly. Chapter 7: the order of suffixes as a list; slices.Backward; ranks in a row of one's own. -/
import Derived.RangeFuncBound
import Derived.RangeFuncCalls
import Derived.RangeFuncLeaves
import Derived.Shelf.Abstract
import Derived.Shelf.RegionOpen
import Derived.WalkKit
import Derived.OwnWalkIn
import Derived.TacticsInMore
import Derived.LoopNIn
import Derived.LoopIn
import Derived.Test.YtpjncojljamacaaGreatAD
import Derived.Test.YtpjncojljamacaaGreatGG
import Derived.Test.YtpjncojljamacaaGreatQC
import Derived.Test.YtpjncojljamacaaGreatSA

set_option linter.unusedVariables false
set_option linter.unusedSimpArgs false
set_option maxRecDepth 100000
namespace Go.Proofs.YtpjncojljamacaaGreat.AM
open Go Go.RowKit Go.Shelf

section
attribute [local go_sem] Oper.semAt_some
end

def backL (xs : List IV) : List (List IV) := (List.range xs.length).map (fun (i : Nat) => [IV.int .i64 ((xs.length : Int) - 1 - (i : Int)), xs[xs.length - 1 - i]?.getD (.tup [])])
theorem backL_len (xs : List IV) : (backL xs).length = xs.length := by simp [backL]
theorem backL_get {xs : List IV} {i : Nat} (h : i < xs.length) : (backL xs)[i]? = some [IV.int .i64 ((xs.length : Int) - 1 - (i : Int)), xs[xs.length - 1 - i]?.getD (.tup [])] := by simp [backL, h]

end Go.Proofs.YtpjncojljamacaaGreat.AM

set_option linter.unusedVariables false
set_option linter.unusedSimpArgs false
set_option maxRecDepth 20000
namespace Go.Proofs.YtpjncojljamacaaGreat.AM
open Go Go.RowKit

def lev (row places : List Int) : IV := .agg [inl row, inl places]
def mxF (f : Nat → Int) : Nat → Int
  | 0 => f 0
  | i + 1 => max (mxF f i) (f (i + 1))
theorem cmp_spec (a b : Int) : PCalls Tryz.prog 41 [.int .i64 a, .int .i64 b] (.int .i64 (if a < b then -1 else if b < a then 1 else 0)) := by
  refine PCalls.of_aw Tryz.func41 rfl (by unfold Callable; kernel_rfl) (by kernel_rfl) (by simp [Tryz.ntmps41]) ?_; rw [Tryz.ntmps41, Tryz.results41]; (simp (disch := first | exact dq | fail) only [go_sem])
  (repeat' (first | refine Nx.go ?_ | fail) <;> try (simp (disch := first | exact dq | fail) only [go_sem]))
  ((with_reducible first | apply left_callf | apply leftD_callf | apply leftF_callf); (· with_reducible rfl); (· (simp (disch := first | exact dq | fail) only [go_sem]) <;> rfl); (· exact isNaNc_spec a); try (simp (disch := first | exact dq | fail) only [go_sem]))
  (repeat' (first | refine Nx.go ?_ | fail) <;> try (simp (disch := first | exact dq | fail) only [go_sem]))
  ((with_reducible first | apply left_callf | apply leftD_callf | apply leftF_callf); (· with_reducible rfl); (· (simp (disch := first | exact dq | fail) only [go_sem]) <;> rfl); (· exact isNaNc_spec b); try (simp (disch := first | exact dq | fail) only [go_sem]))
  (repeat' first
  | ((first | refine Nx.go ?_ | fail) <;> try (simp (disch := first | exact dq | fail) only [go_sem]))
  | ((with_reducible refine Sp.go ?_ ?_) <;> intro h <;> (try (simp (disch := first | exact dq | fail) only [go_sem] at h)) <;> try (simp (disch := first | exact dq | fail) only [go_sem, h])) | fail)
  · rw [if_pos h]
  · rename_i h1; rw [if_neg h1, if_pos h]
  · rename_i h1; rw [if_neg h1, if_neg h]
end Go.Proofs.YtpjncojljamacaaGreat.AM

set_option linter.unusedVariables false
set_option linter.unusedSimpArgs false
set_option maxRecDepth 20000
namespace Go.Proofs.YtpjncojljamacaaGreat.AM
open Go Go.RowKit

theorem len2 (a b : Int) : IV.sl 1 [IV.int .i64 a, IV.int .i64 b] = inl [a, b] := rfl
theorem len3 (a b c : Int) : IV.sl 1 [IV.int .i64 a, IV.int .i64 b, IV.int .i64 c] = inl [a, b, c] := rfl
end Go.Proofs.YtpjncojljamacaaGreat.AM

set_option linter.unusedVariables false
set_option linter.unusedSimpArgs false
set_option maxRecDepth 20000
namespace Go.Proofs.YtpjncojljamacaaGreat.AM
open Go Go.RowKit

theorem rk_set {Nx : List Int} {N i p : Nat} (hp : Nx.getD i 0 = (p : Int)) : (rowF N (rkF Nx i)).set p (.int .i64 ((i : Int) + 1)) = rowF N (rkF Nx (i + 1)) := by
  rw [rowF_set]
  refine rowF_congr (fun m hm => ?_)
  rw [rkF, hp]
  by_cases e : m = p
  · subst e; rw [if_pos rfl, if_pos rfl]; omega
  · rw [if_neg e, if_neg (by omega)]
theorem two_take {n : Nat} {Nx : List Int} {i : Nat} (h : i < Nx.length) : twoL n (Nx.take (i + 1)) = twoL n (Nx.take i) ++ (if Nx.getD i 0 < n then [Nx.getD i 0] else []) := by
  unfold twoL
  rw [take_snoc _ h, List.filter_append]
  congr 1
  generalize Nx.getD i 0 = x
  by_cases hc : x < n
  · rw [if_pos hc]; simp [hc]
  · rw [if_neg hc]; simp [hc]
theorem one_take {n : Nat} {Nx : List Int} {i : Nat} (h : i < Nx.length) : oneL n (Nx.take (i + 1)) = oneL n (Nx.take i) ++ (if Nx.getD i 0 % 3 = 1 ∧ Nx.getD i 0 - 1 < n then [Nx.getD i 0 - 1] else []) := by
  unfold oneL
  rw [take_snoc _ h, List.filter_append, List.map_append]
  congr 1
  generalize Nx.getD i 0 = x
  by_cases hc : x % 3 = 1 ∧ x - 1 < n
  · rw [if_pos hc]; simp [hc]
  · rw [if_neg hc]; simp [hc]
theorem two_len (n : Nat) (Nx : List Int) : (twoL n Nx).length ≤ Nx.length := List.length_filter_le _ _
theorem one_len (n : Nat) (Nx : List Int) : (oneL n Nx).length ≤ Nx.length := by unfold oneL; rw [List.length_map]; exact List.length_filter_le _ _
theorem smp_get {l next : List Int} {i : Nat} (h : i < next.length) : (smp l next).getD i 0 = (pls l.length 2).getD (next.getD i 0).toNat 0 := by unfold smp; exact map_getD h
theorem smp_len (l next : List Int) : (smp l next).length = next.length := by simp [smp]
end Go.Proofs.YtpjncojljamacaaGreat.AM

set_option linter.unusedVariables false
set_option linter.unusedSimpArgs false
set_option maxRecDepth 20000
namespace Go.Proofs.YtpjncojljamacaaGreat.AM
open Go Go.RowKit

theorem mxF_at (f : Nat → Int) : ∀ i, ∃ j, j ≤ i ∧ mxF f i = f j
  | 0 => ⟨0, Nat.le_refl _, rfl⟩
  | i + 1 => by
    obtain ⟨j, hj, e⟩ := mxF_at f i
    rw [mxF]
    by_cases h : mxF f i ≤ f (i + 1)
    · exact ⟨i + 1, Nat.le_refl _, by omega⟩
    · exact ⟨j, by omega, by omega⟩
theorem mxF_ge (f : Nat → Int) : ∀ i j, j ≤ i → f j ≤ mxF f i
  | 0, j, h => by
    have : j = 0 := by omega
    subst this; exact Int.le_refl _
  | i + 1, j, h => by
    rw [mxF]
    by_cases e : j = i + 1
    · subst e; omega
    · have := mxF_ge f i j (by omega); omega
theorem rank_full {e : List Int} (h : ∃ j, j < e.length ∧ (rankL e).getD j 0 = (e.length : Int) - 1) : ∀ i j, i < e.length → j < e.length → (rankL e).getD i 0 = (rankL e).getD j 0 → i = j := by
  obtain ⟨j0, hj0, h0⟩ := h
  have h1 := (rank_range hj0).2
  have h2 := setI_len e
  have hlen := rankL_len e
  have hp := pigeon (idL e.length) (rankL e) (idL_nodup _) (fun x hx => by
    unfold idL at hx
    obtain ⟨c, hc, rfl⟩ := List.mem_map.1 hx
    rw [List.mem_range] at hc
    exact rank_all (by omega) (by omega)) (by rw [hlen, idL_len]; exact Nat.le_refl _)
  have hn := hp.nodup_iff.1 (idL_nodup e.length)
  intro i j hi hj hij
  rw [getD_el (by omega), getD_el (by omega)] at hij
  have hw := List.pairwise_iff_getElem.1 (List.nodup_iff_pairwise_ne.1 hn)
  rcases Nat.lt_trichotomy i j with g | g | g
  · exact absurd hij (hw i j (by omega) (by omega) g)
  · exact g
  · exact absurd hij.symm (hw j i (by omega) (by omega) g)
def invR (e : List Int) : List Int := (List.range e.length).map (fun (q : Nat) => srF (rankL e) (idL e.length) e.length q)
theorem invR_spec {e : List Int} (h : ∃ j, j < e.length ∧ (rankL e).getD j 0 = (e.length : Int) - 1) : IsSA ((rankL e).map (· + 1)) (invR e) := by
  have hinj := rank_full h
  have hlen := rankL_len e
  have hrl : ((rankL e).map (· + 1)).length = e.length := by rw [List.length_map, hlen]
  obtain ⟨j0, hj0, h0⟩ := h
  have hset := setI_len e
  have hall : ∀ q : Nat, q < e.length → ∃ k, k < e.length ∧ (rankL e).getD k 0 = (q : Int) := fun q hq => by
    have h1 := (rank_range hj0).2
    have hm := rank_all (l := e) (c := (q : Int)) (by omega) (by omega)
    obtain ⟨k, hk, ek⟩ := List.getElem_of_mem hm
    exact ⟨k, by omega, (getD_el hk).trans ek⟩
  have hil : (invR e).length = e.length := by simp [invR]
  have hat : ∀ q k : Nat, q < e.length → k < e.length → (rankL e).getD k 0 = (q : Int) → (invR e).getD q 0 = (k : Int) := fun q k hq hk hr => by
    unfold invR
    rw [range_atQ hq, srF_spec (m := e.length) (fun i j hi hj he => hinj i j hi hj he) (Nat.le_refl _) hk hr, idL_get hk]
  have hpos : ∀ x ∈ (rankL e).map (· + 1), 1 ≤ x := fun x hx => by
    obtain ⟨y, hy, rfl⟩ := List.mem_map.1 hx
    obtain ⟨k, hk, ek⟩ := List.getElem_of_mem hy
    have := (rank_range (l := e) (i := k) (by omega)).1
    rw [getD_el hk, ek] at this
    show 1 ≤ y + 1
    omega
  refine ⟨?_, fun x => ?_⟩
  · rw [List.pairwise_iff_getElem]
    intro q q' hq hq' hqq
    obtain ⟨k, hk, hr⟩ := hall q (by omega)
    obtain ⟨k', hk', hr'⟩ := hall q' (by omega)
    rw [← getD_el hq, ← getD_el hq', hat q k (by omega) hk hr, hat q' k' (by omega) hk' hr']
    unfold Rs
    rw [Int.toNat_natCast, Int.toNat_natCast, sl2_step hpos (by omega) (by omega)]
    refine .inl ?_
    rw [map_getD (by omega), map_getD (by omega), hr, hr']
    omega
  · rw [hrl]
    constructor
    · intro hx
      obtain ⟨q, hq, rfl⟩ := List.getElem_of_mem hx
      obtain ⟨k, hk, hr⟩ := hall q (by omega)
      rw [← getD_el hq, hat q k (by omega) hk hr]
      omega
    · rintro ⟨h1, h2⟩
      have hr := rank_range (l := e) (i := x.toNat) (by omega)
      have := hat ((rankL e).getD x.toNat 0).toNat x.toNat (by omega) (by omega) (by omega)
      have hm := getD_mem (l := invR e) (k := ((rankL e).getD x.toNat 0).toNat) (by omega)
      rw [this] at hm
      rwa [show ((x.toNat : Nat) : Int) = x from by omega] at hm
theorem nxt_short {l : List Int} (h : 3 ≤ l.length) : (nxt l).length < l.length := by rw [nxt_len]; unfold cntU; omega
theorem nxt_two {l : List Int} (h : 2 ≤ l.length) : 2 ≤ (nxt l).length := by rw [nxt_len]; unfold cntU; omega
def nxE (l : List Int) : List Int := encL ((pls l.length 2).map (fun i => l.getD i.toNat 0)) (pairL ((pls l.length 2).map (fun i => l.getD (i.toNat + 1) 0)) ((pls l.length 2).map (fun i => l.getD (i.toNat + 2) 0)))
theorem nxt_E (l : List Int) : nxt l = (rankL (nxE l)).map (· + 1) := rfl
theorem nxE_len (l : List Int) : (nxE l).length = (nxt l).length := by rw [nxt_E, List.length_map, rankL_len]
theorem nxt_end {l : List Int} (h0 : 0 < (nxt l).length) (h : mxF (fun i => (nxt l).getD i 0) ((nxt l).length - 1) = ((nxt l).length : Int)) : IsSA (nxt l) (invR (nxE l)) := by
  obtain ⟨j, hj, e⟩ := mxF_at (fun i => (nxt l).getD i 0) ((nxt l).length - 1)
  have hE := nxE_len l
  rw [nxt_E]
  refine invR_spec ⟨j, by omega, ?_⟩
  have h1 : (nxt l).getD j 0 = ((nxt l).length : Int) := e.symm.trans h
  rw [nxt_E, map_getD (by rw [rankL_len]; omega), ← nxt_E] at h1
  omega
theorem nxt_le {l : List Int} {j : Nat} (hj : j < (nxt l).length) : (nxt l).getD j 0 ≤ (nxt l).length := by
  have hE := nxE_len l
  have h1 := (rank_range (l := nxE l) (i := j) (by omega)).2
  have h2 := setI_len (nxE l)
  have h3 : (nxt l).getD j 0 = (rankL (nxE l)).getD j 0 + 1 := by rw [nxt_E, map_getD (by rw [rankL_len]; omega)]
  omega
theorem nxt_2 {l : List Int} (hl : ∀ x ∈ l, 1 ≤ x) (h : l.length = 2) : mxF (fun i => (nxt l).getD i 0) ((nxt l).length - 1) = ((nxt l).length : Int) := by
  have hn : (nxt l).length = 2 := by rw [nxt_len, h]; rfl
  have h1 := (nxt_lt (l := l) (j := 1) (k := 0) (by omega) (by omega)).2 (by
    rw [h]
    have z := at_zero hl 2
    have p := at_zero hl 1
    have p2 := at_pos hl 1
    exact .inl (by show l.getD 2 0 < l.getD 1 0; omega))
  have h2 := nxt_pos l _ (getD_mem (l := nxt l) (k := 1) (by omega))
  have h3 := mxF_ge (fun i => (nxt l).getD i 0) ((nxt l).length - 1) 0 (by omega)
  obtain ⟨j, hj, e⟩ := mxF_at (fun i => (nxt l).getD i 0) ((nxt l).length - 1)
  have h4 := nxt_le (l := l) (j := j) (by omega)
  omega
theorem wl_same {a b : List Int} (hl : a.length = b.length) (h : ∀ i k, i < a.length → k < a.length → (a.getD i 0 < a.getD k 0 ↔ b.getD i 0 < b.getD k 0)) : ∀ (m i k : Nat), a.length - i ≤ m → i ≤ a.length → k ≤ a.length → wl (a.drop i) (a.drop k) = wl (b.drop i) (b.drop k)
  | m, i, k, hm, hi, hk => by
    by_cases h1 : i < a.length
    · by_cases h2 : k < a.length
      · match m with
        | 0 => omega
        | m + 1 =>
          have ih := wl_same hl h m (i + 1) (k + 1) (by omega) (by omega) (by omega)
          have e1 := h i k h1 h2
          have e2 := h k i h2 h1
          rw [getD_el h1, getD_el h2, getD_el (by omega), getD_el (by omega)] at e1 e2
          rw [List.drop_eq_getElem_cons h1, List.drop_eq_getElem_cons h2, List.drop_eq_getElem_cons (l := b) (by omega), List.drop_eq_getElem_cons (l := b) (i := k) (by omega), wl, wl, ih]
          by_cases c1 : a[i] < a[k]
          · rw [if_pos c1, if_pos (e1.1 c1)]
          · by_cases c2 : a[k] < a[i]
            · rw [if_neg c1, if_pos c2, if_neg (fun g => c1 (e1.2 g)), if_pos (e2.1 c2)]
            · rw [if_neg c1, if_neg c2, if_neg (fun g => c1 (e1.2 g)), if_neg (fun g => c2 (e2.2 g))]
      · rw [List.drop_of_length_le (l := a) (i := k) (by omega), List.drop_of_length_le (l := b) (i := k) (by omega)]
        cases a.drop i <;> cases b.drop i <;> rfl
    · rw [List.drop_of_length_le (l := a) (i := i) (by omega), List.drop_of_length_le (l := b) (i := i) (by omega)]
      by_cases h2 : k < a.length
      · rw [List.drop_eq_getElem_cons h2, List.drop_eq_getElem_cons (l := b) (i := k) (by omega)]; rfl
      · rw [List.drop_of_length_le (l := a) (i := k) (by omega), List.drop_of_length_le (l := b) (i := k) (by omega)]
def rk1 (l : List Int) : List Int := (rankL l).map (· + 1)
theorem rk1_len (l : List Int) : (rk1 l).length = l.length := by unfold rk1; rw [List.length_map, rankL_len]
theorem rk1_sa {l s : List Int} (h : IsSA (rk1 l) s) : IsSA l s := by
  have hlen := rk1_len l
  have key : ∀ i k, i ≤ l.length → k ≤ l.length → (sl2 (rk1 l) i k ↔ sl2 l i k) := fun i k hi hk => by
    unfold sl2
    rw [wl_same (a := rk1 l) (b := l) hlen (fun i k hi hk => by
      rw [hlen] at hi hk
      unfold rk1
      rw [map_getD (by rw [rankL_len]; exact hi), map_getD (by rw [rankL_len]; exact hk), ← rank_lt hi hk]
      omega) _ i k (Nat.le_refl _) (by omega) (by omega)]
  refine ⟨List.Pairwise.imp_of_mem (fun {a b} ha hb hab => ?_) h.1, fun x => by rw [h.2, hlen]⟩
  have h1 := (h.2 a).1 ha
  have h2 := (h.2 b).1 hb
  exact (key _ _ (by omega) (by omega)).1 hab
theorem rk1_pos (l : List Int) : ∀ x ∈ rk1 l, 1 ≤ x := fun x hx => by
  unfold rk1 at hx
  obtain ⟨y, hy, rfl⟩ := List.mem_map.1 hx
  obtain ⟨k, hk, ek⟩ := List.getElem_of_mem hy
  have hlen := rankL_len l
  have := (rank_range (l := l) (i := k) (by omega)).1
  rw [getD_el hk, ek] at this
  show 1 ≤ y + 1
  omega
end Go.Proofs.YtpjncojljamacaaGreat.AM

set_option linter.unusedVariables false
set_option linter.unusedSimpArgs false
set_option maxRecDepth 20000
namespace Go.Proofs.YtpjncojljamacaaGreat.AM
open Go Go.RowKit

def insS (l : List Int) (i : Int) : List Int → List Int
  | [] => [i]
  | y :: s => if wl (l.drop i.toNat) (l.drop y.toNat) = true then i :: y :: s else y :: insS l i s
theorem insS_mem (l : List Int) (i x : Int) : ∀ s, x ∈ insS l i s ↔ x = i ∨ x ∈ s
  | [] => by simp [insS]
  | y :: s => by
    rw [insS]
    split
    · simp
    · rw [List.mem_cons, insS_mem l i x s, List.mem_cons]; grind
theorem insS_pw {l : List Int} {i : Int} (hi : 0 ≤ i ∧ i < l.length) : ∀ s, s.Pairwise (Rs l) → (∀ y ∈ s, 0 ≤ y ∧ y < i) → (insS l i s).Pairwise (Rs l)
  | [], _, _ => by simp [insS]
  | y :: s, hs, hy => by
    rw [insS]
    rw [List.pairwise_cons] at hs
    split
    · rename_i h
      refine List.pairwise_cons.2 ⟨fun z hz => ?_, List.pairwise_cons.2 hs⟩
      rcases List.mem_cons.1 hz with e | e
      · rw [e]; exact h
      · exact Rs_trans (show Rs l i y from h) (hs.1 z e)
    · rename_i h
      refine List.pairwise_cons.2 ⟨fun z hz => ?_, insS_pw hi s hs.2 (fun z hz => hy z (by simp [hz]))⟩
      rw [insS_mem] at hz
      rcases hz with e | e
      · rw [e]
        have h2 := hy y (by simp)
        rcases sl2_tri (l := l) (i := i.toNat) (k := y.toNat) (by omega) (by omega) with g | g | g
        · exact absurd g h
        · omega
        · exact g
      · exact hs.1 z e
def saN (l : List Int) : Nat → List Int
  | 0 => []
  | k + 1 => insS l k (saN l k)
theorem saN_mem (l : List Int) (x : Int) : ∀ k : Nat, x ∈ saN l k ↔ 0 ≤ x ∧ x < k
  | 0 => by simp [saN]
  | k + 1 => by rw [saN, insS_mem, saN_mem l x k]; omega
theorem saN_pw (l : List Int) : ∀ k, k ≤ l.length → (saN l k).Pairwise (Rs l)
  | 0, _ => List.Pairwise.nil
  | k + 1, h => insS_pw ⟨by omega, by omega⟩ _ (saN_pw l k (by omega)) (fun y hy => (saN_mem l y k).1 hy)
def saL (l : List Int) : List Int := saN l l.length
theorem saL_sa (l : List Int) : IsSA l (saL l) := ⟨saN_pw l _ (Nat.le_refl _), fun x => saN_mem l x _⟩
theorem sa_eq {l s : List Int} (h : IsSA l s) : s = saL l := h.unique (saL_sa l)
theorem insS_len (l : List Int) (i : Int) : ∀ s, (insS l i s).length = s.length + 1
  | [] => rfl
  | y :: s => by
    rw [insS]; split
    · rfl
    · rw [List.length_cons, insS_len l i s, List.length_cons]
theorem saN_len (l : List Int) : ∀ k, (saN l k).length = k
  | 0 => rfl
  | k + 1 => by rw [saN, insS_len, saN_len l k]
theorem saL_len (l : List Int) : (saL l).length = l.length := saN_len l _
theorem end_sa {l : List Int} (hl : ∀ x ∈ l, 1 ≤ x) : endL l (smp l (saL (nxt l))) = saL l := sa_eq (endL_spec hl (smp_spec hl (saL_sa _)))
theorem sa_rk (l : List Int) : saL (rk1 l) = saL l := sa_eq (rk1_sa (saL_sa _))
theorem sa_one {l : List Int} (h : l.length < 2) : idL l.length = saL l := sa_eq ⟨by
  match l, h with
  | [], _ => exact List.Pairwise.nil
  | [x], _ => exact List.pairwise_singleton _ _, fun x => by
    unfold idL
    rw [List.mem_map]
    constructor
    · rintro ⟨c, hc, rfl⟩; rw [List.mem_range] at hc; exact ⟨by omega, by omega⟩
    · rintro ⟨h1, h2⟩; exact ⟨x.toNat, List.mem_range.2 (by omega), by omega⟩⟩
end Go.Proofs.YtpjncojljamacaaGreat.AM
