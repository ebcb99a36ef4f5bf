
/- slices.Compact, BinarySearch. No condition but lengths that fit. Chapter 6: Ranks. No condition but lengths that fit. Chapter 6: plain facts on ranks. No condition. Chapter 6: lists that rise. No condition. Chapter 6: plain facts on ranks of pairs. No condition. Chapter 6: Pairs. No condition but lengths that fit. Chapter 6: awake, few. No condition. Chapter 6: Inverse. No condition. -/
import Derived.Test.YtnijpeeehnnipaaQB
import Derived.Test.YtnijpeeehnnipaaOO

set_option linter.unusedVariables false
set_option linter.unusedSimpArgs false
set_option maxRecDepth 20000
namespace Go.Proofs.Ytnijpeeehnnipaa.AM
open Go Go.RowKit

theorem range_atQ {f : Nat → Int} {n k : Nat} (h : k < n) : ((List.range n).map f).getD k 0 = f k := by simp [List.getD, h]
def dedP (f : Nat → Int) : Nat → List Int
  | 0 => []
  | i + 1 => dedP f i ++ (if i = 0 ∨ f i ≠ f (i - 1) then [f i] else [])
def ded (l : List Int) : List Int := dedP (fun m => l.getD m 0) l.length
def dedRow (f : Nat → Int) (i : Nat) : Nat → Int := fun m => if m < (dedP f i).length then (dedP f i).getD m 0 else f m
theorem dedP_le (f : Nat → Int) : ∀ i, (dedP f i).length ≤ i
  | 0 => Nat.le_refl _
  | i + 1 => by
    have := dedP_le f i
    simp only [dedP, List.length_append]
    split <;> simp <;> omega
theorem dedP_lt {f : Nat → Int} {j : Nat} (h1 : 1 ≤ j) (h : f j = f (j - 1)) : ∀ i, j < i → (dedP f i).length < i
  | 0, h2 => by omega
  | i + 1, h2 => by
    simp only [dedP, List.length_append]
    by_cases e : j = i
    · subst e
      rw [if_neg (fun hc => by rcases hc with hc | hc; omega; exact hc h)]
      have := dedP_le f j
      simp; omega
    · have := dedP_lt h1 h i (by omega)
      split <;> simp <;> omega
theorem dedP_same {f : Nat → Int} : ∀ i, (∀ j, 1 ≤ j → j < i → f j ≠ f (j - 1)) → dedP f i = (List.range i).map f
  | 0, _ => rfl
  | i + 1, h => by
    rw [dedP, dedP_same i (fun j h1 h2 => h j h1 (by omega)), List.range_succ, List.map_append, if_pos]
    · rfl
    · by_cases e : i = 0
      · exact .inl e
      · exact .inr (h i (by omega) (by omega))
theorem dedP_eq {f : Nat → Int} {i : Nat} (h1 : 1 ≤ i) (h : f i = f (i - 1)) : dedP f (i + 1) = dedP f i := by
  rw [dedP, if_neg (fun hc => by rcases hc with hc | hc; omega; exact hc h), List.append_nil]
theorem dedP_ne {f : Nat → Int} {i : Nat} (h : f i ≠ f (i - 1)) : dedP f (i + 1) = dedP f i ++ [f i] := by
  rw [dedP, if_pos (.inr h)]
theorem dedRow_set (n : Nat) {f : Nat → Int} {i : Nat} (h : f i ≠ f (i - 1)) : (rowF n (dedRow f i)).set (dedP f i).length (.int .i64 (f i)) = rowF n (dedRow f (i + 1)) := by
  rw [rowF_set]
  refine rowF_congr (fun m hm => ?_)
  unfold dedRow
  rw [dedP_ne h, List.length_append, List.length_singleton]
  by_cases e : m = (dedP f i).length
  · subst e
    rw [if_pos rfl, if_pos (by omega)]
    simp [List.getD]
  · rw [if_neg e]
    by_cases e2 : m < (dedP f i).length
    · rw [if_pos e2, if_pos (by omega)]
      simp [List.getD, List.getElem?_append_left e2]
    · rw [if_neg e2, if_neg (by omega)]
theorem Compact_M (l : List Int) (hl : l.length ≤ 1000000) : MCalls Try.prog 68 [.msl 0 0 l.length l.length] [.row true 3 1 (l.map (IV.int .i64))]
    (.msl 0 0 (ded l).length l.length) [.row true 3 1 ((ded l ++ List.replicate (l.length - (ded l).length) 0).map (IV.int .i64))] := by
  rw [rowF_of]
  unfold ded
  generalize (fun m => l.getD m 0) = f
  generalize l.length = n at *
  by_cases hn2 : n < 2
  · have hd : dedP f n = (List.range n).map f := dedP_same n (fun j h1 h2 => by omega)
    rw [hd, List.length_map, List.length_range, Nat.sub_self, List.replicate_zero, List.append_nil, ← rowF_map]
    have c1 : ((n : Int) < 2) := by omega
    refine MCalls.of_aw Try.func68 rfl (by unfold Callable; kernel_rfl) (by kernel_rfl) (by simp [Try.ntmps68]) (by (simp (disch := first | exact dq | fail) only [go_sem])) ?_; rw [Try.ntmps68, Try.results68]; (simp (disch := first | exact dq | fail) only [go_sem])
    (repeat' (first | refine Nx.go ?_ | fail) <;> try (simp (disch := first | exact dq | fail) only [go_sem, rowF_len, c1, decide_true]))
    all_goals (try omega)
    refine fin_k [0] ?_
    (simp (disch := first | exact dq | fail) only [go_sem])
  have c1 : ¬ ((n : Int) < 2) := by omega
  have hlen := rowF_len n f
  refine MCalls.of_aw Try.func68 rfl (by unfold Callable; kernel_rfl) (by kernel_rfl) (by simp [Try.ntmps68]) (by (simp (disch := first | exact dq | fail) only [go_sem])) ?_; rw [Try.ntmps68, Try.results68]; (simp (disch := first | exact dq | fail) only [go_sem])
  (repeat' (first | refine Nx.go ?_ | fail) <;> try (simp (disch := first | exact dq | fail) only [go_sem, hlen, c1, decide_false]))
  all_goals (try omega)
  refine aw_loop (α := Nat) (fun k => ⟨61, sl [(0, .msl 0 0 n n), (3, .iv (.int .i64 k))], [.row true 3 1 (rowF n f)], 1⟩)
    (fun k => (1 ≤ k ∧ k ≤ n) ∧ ∀ j, 1 ≤ j → j < k → f j ≠ f (j - 1)) (fun k => n - k) 1 (wk_by [0] ?_) ⟨by omega, fun j h1 h2 => by omega⟩ ?_
  · (simp (disch := first | exact dq | fail) only [go_sem])
  rintro k ⟨hk, hne⟩
  by_cases hlt : k < n
  · have e1 : ((k : Int) - 1).toNat = k - 1 := by omega
    have g1 := rowF_get f hlt
    have g2 := rowF_get f (show k - 1 < n by omega)
    by_cases hdup : f k = f (k - 1)
    · have hk1 : dedP f (k + 1) = (List.range k).map f := by rw [dedP_eq hk.1 hdup, dedP_same k hne]
      have hrow : rowF n (dedRow f (k + 1)) = rowF n f := rowF_congr (fun m hm => by
        unfold dedRow
        rw [hk1, List.length_map, List.length_range]
        split
        · rename_i h; rw [range_atQ h]
        · rfl)
      have hlk : (dedP f (k + 1)).length = k := by rw [hk1]; simp
      (repeat' first
  | ((with_reducible first | refine Nx.go ?_ | refine rP ?_ | refine And.intro ?_ ?_ | fail) <;> try (simp (disch := first | exact dq | fail) only [go_sem, e1, hlen, g1, g2, hdup, decide_true]))
  | ((with_reducible refine Sp.go ?_ ?_) <;> intro h <;> (try (simp (disch := first | exact dq | fail) only [go_sem] at h)) <;> try (simp (disch := first | exact dq | fail) only [go_sem, h, e1, hlen, g1, g2, hdup, decide_true])) | fail)
      all_goals (try omega)
      refine aw_loop (α := Nat) (fun i => ⟨61, sl [(0, .msl 0 0 n n), (3, .iv (.int .i64 (dedP f i).length)), (4, .msl 0 k (n - k) n), (5, .iv (.int .i64 ((i : Int) - k)))], [.row true 3 1 (rowF n (dedRow f i))], 1⟩)
        (fun i => k + 1 ≤ i ∧ i ≤ n) (fun i => n - i) (k + 1) (wk_by [0] ?_) (by omega) ?_
      · (simp (disch := first | exact dq | fail) only [go_sem, hlk, hrow])
        congr 2; omega
      rintro i ⟨hi1, hi2⟩
      have hli := rowF_len n (dedRow f i)
      have hdl := dedP_lt hk.1 hdup i (by omega)
      by_cases hlt2 : i < n
      · have d1 : dedRow f i i = f i := by unfold dedRow; rw [if_neg (by omega)]
        have d2 : dedRow f i (i - 1) = f (i - 1) := by unfold dedRow; rw [if_neg (by omega)]
        have r1 := rowF_get (dedRow f i) hlt2
        have r2 := rowF_get (dedRow f i) (show i - 1 < n by omega)
        rw [d1] at r1
        rw [d2] at r2
        have e2 : k + ((i : Int) - k).toNat = i := by omega
        have e3 : k + ((i : Int) - k - 1).toNat = i - 1 := by omega
        by_cases hd2 : f i = f (i - 1)
        · have hq := dedP_eq (by omega) hd2
          have hq2 : dedRow f (i + 1) = dedRow f i := by unfold dedRow; rw [hq]
          (repeat' first
  | ((with_reducible first | refine Nx.go ?_ | refine rP ?_ | refine And.intro ?_ ?_ | fail) <;> try (simp (disch := first | exact dq | fail) only [go_sem, e2, e3, hli, r1, r2, hd2, decide_true, decide_false]))
  | ((with_reducible refine Sp.go ?_ ?_) <;> intro h <;> (try (simp (disch := first | exact dq | fail) only [go_sem] at h)) <;> try (simp (disch := first | exact dq | fail) only [go_sem, h, e2, e3, hli, r1, r2, hd2, decide_true, decide_false])) | fail)
          all_goals (try omega)
          refine ⟨i + 1, by omega, wk_by [0] ?_, by omega⟩
          (simp (disch := first | exact dq | fail) only [go_sem, hq, hq2])
          congr 2; omega
        · have hq := dedP_ne hd2
          have hs := dedRow_set n hd2
          have r3 := rowF_get (dedRow f i) (show (dedP f i).length < n by omega)
          (repeat' first
  | ((with_reducible first | refine Nx.go ?_ | refine rP ?_ | refine And.intro ?_ ?_ | fail) <;> try (simp (disch := first | exact dq | fail) only [go_sem, e2, e3, hli, r1, r2, r3, hs, hd2, decide_true, decide_false]))
  | ((with_reducible refine Sp.go ?_ ?_) <;> intro h <;> (try (simp (disch := first | exact dq | fail) only [go_sem] at h)) <;> try (simp (disch := first | exact dq | fail) only [go_sem, h, e2, e3, hli, r1, r2, r3, hs, hd2, decide_true, decide_false])) | fail)
          all_goals (try omega)
          refine ⟨i + 1, by omega, wk_by [0] ?_, by omega⟩
          (simp (disch := first | exact dq | fail) only [go_sem, hq])
          congr 2; omega
      · have : i = n := by omega
        subst this
        have hdr : List.drop ((dedP f i).length + (i - (dedP f i).length)) (rowF i (dedRow f i)) = [] := List.drop_of_length_le (by omega)
        have htk : List.take (dedP f i).length (rowF i (dedRow f i)) = (dedP f i).map (IV.int .i64) := by
          apply List.ext_getElem?
          intro m
          rw [List.getElem?_take, List.getElem?_map]
          by_cases hm : m < (dedP f i).length
          · rw [if_pos hm, rowF_get _ (show m < i by omega), List.getElem?_eq_getElem hm]
            unfold dedRow
            rw [if_pos hm]
            simp [List.getD, List.getElem?_eq_getElem hm]
          · rw [if_neg hm, List.getElem?_eq_none (by omega)]; rfl
        (repeat' first
  | ((with_reducible first | refine Nx.go ?_ | refine rP ?_ | refine And.intro ?_ ?_ | fail) <;> try (simp (disch := first | exact dq | fail) only [go_sem, hli, hdr, List.append_nil]))
  | ((with_reducible refine Sp.go ?_ ?_) <;> intro h <;> (try (simp (disch := first | exact dq | fail) only [go_sem] at h)) <;> try (simp (disch := first | exact dq | fail) only [go_sem, h, hli, hdr, List.append_nil])) | fail)
        all_goals (try omega)
        rw [htk]
        refine fin_k [0] ?_
        (simp (disch := first | exact dq | fail) only [go_sem, List.map_append, List.map_replicate])
    · (repeat' first
  | ((with_reducible first | refine Nx.go ?_ | refine rP ?_ | refine And.intro ?_ ?_ | fail) <;> try (simp (disch := first | exact dq | fail) only [go_sem, e1, hlen, g1, g2, hdup, decide_false]))
  | ((with_reducible refine Sp.go ?_ ?_) <;> intro h <;> (try (simp (disch := first | exact dq | fail) only [go_sem] at h)) <;> try (simp (disch := first | exact dq | fail) only [go_sem, h, e1, hlen, g1, g2, hdup, decide_false])) | fail)
      all_goals (try omega)
      refine ⟨k + 1, ⟨by omega, fun j h1 h2 => ?_⟩, wk_by [0] ?_, by omega⟩
      · by_cases e : j = k
        · subst e; exact hdup
        · exact hne j h1 (by omega)
      · (simp (disch := first | exact dq | fail) only [go_sem])
  · have : k = n := by omega
    subst this
    have hd := dedP_same k hne
    rw [hd, List.length_map, List.length_range, Nat.sub_self, List.replicate_zero, List.append_nil, ← rowF_map]
    (repeat' first
  | ((with_reducible first | refine Nx.go ?_ | refine rP ?_ | refine And.intro ?_ ?_ | fail) <;> try (simp (disch := first | exact dq | fail) only [go_sem, hlen]))
  | ((with_reducible refine Sp.go ?_ ?_) <;> intro h <;> (try (simp (disch := first | exact dq | fail) only [go_sem] at h)) <;> try (simp (disch := first | exact dq | fail) only [go_sem, h, hlen])) | fail)
    all_goals (try omega)
    refine fin_k [0] ?_
    (simp (disch := first | exact dq | fail) only [go_sem])
theorem fdiv2 (z : Int) : z.fdiv (2 ^ min 1 64) = z / 2 := by
  rw [show ((2 : Int) ^ min 1 64) = 2 by decide, Int.fdiv_eq_ediv_of_nonneg _ (by decide)]
theorem Bs_spec (l : List Int) (x : Int) (hl : l.length ≤ 1000000) (hs : ∀ i j, i ≤ j → j < l.length → l.getD i 0 ≤ l.getD j 0) :
    ∃ v, PCalls Try.prog 69 [inl l, .int .i64 x] (.tup [.int .i64 (findI l x), .bool v]) := by
  refine ⟨decide (findI l x < l.length) && decide (l.getD (findI l x) 0 = x), ?_⟩
  refine PCalls.of_aw Try.func69 rfl (by unfold Callable; kernel_rfl) (by kernel_rfl) (by simp [Try.ntmps69]) ?_; rw [Try.ntmps69, Try.results69]; (simp (disch := first | exact dq | fail) only [go_sem])
  (repeat' (first | refine Nx.go ?_ | fail) <;> try (simp (disch := first | exact dq | fail) only [go_sem]))
  refine aw_loop (α := Nat × Nat) (fun y => ⟨54, sl [(0, .iv (inl l)), (1, .iv (.int .i64 x)), (6, .iv (.int .i64 l.length)), (7, .iv (.int .i64 y.1)), (8, .iv (.int .i64 y.2))], [], 0⟩)
    (fun y => (y.1 ≤ y.2 ∧ y.2 ≤ l.length) ∧ (∀ m, m < y.1 → l.getD m 0 < x) ∧ (∀ m, y.2 ≤ m → m < l.length → x ≤ l.getD m 0)) (fun y => y.2 - y.1) (0, l.length) (wk_by [] ?_) ⟨by dsimp only; omega, fun m h => by dsimp only at h; omega, fun m h1 h2 => by dsimp only at h1; omega⟩ ?_
  · (simp (disch := first | exact dq | fail) only [go_sem])
  rintro ⟨i, j⟩ ⟨hij, hlo, hhi⟩
  dsimp only at hij hlo hhi
  by_cases hlt : i < j
  · have eh : (((i : Int) + j) / 2).toNat = (i + j) / 2 := by omega
    have c0 : ((i : Int) < j) := by omega
    by_cases hless : l.getD ((i + j) / 2) 0 < x
    · (repeat' first
  | ((with_reducible first | refine Nx.go ?_ | refine And.intro ?_ ?_ | fail) <;> try (simp (disch := first | exact dq | fail) only [go_sem, c0, fdiv2, eh, hless, decide_true]))
  | ((with_reducible refine Sp.go ?_ ?_) <;> intro h <;> (try (simp (disch := first | exact dq | fail) only [go_sem] at h)) <;> try (simp (disch := first | exact dq | fail) only [go_sem, h, c0, fdiv2, eh, hless, decide_true]))
  | ((first | with_reducible apply left_callf | with_reducible apply leftD_callf); (· with_reducible rfl); (· (simp (disch := first | exact dq | fail) only [go_sem, c0, fdiv2, eh, hless, decide_true]) <;> rfl); (· (first | exact Less_spec ..)); try (simp (disch := first | exact dq | fail) only [go_sem, c0, fdiv2, eh, hless, decide_true])) | fail)
      all_goals (try omega)
      refine ⟨((i + j) / 2 + 1, j), ⟨by dsimp only; omega, fun m hm => ?_, hhi⟩, wk_by [] ?_, by dsimp only; omega⟩
      · dsimp only at hm
        have := hs m ((i + j) / 2) (by omega) (by omega)
        omega
      · (simp (disch := first | exact dq | fail) only [go_sem])
        congr 2
    · (repeat' first
  | ((with_reducible first | refine Nx.go ?_ | refine And.intro ?_ ?_ | fail) <;> try (simp (disch := first | exact dq | fail) only [go_sem, c0, fdiv2, eh, hless, decide_true, decide_false]))
  | ((with_reducible refine Sp.go ?_ ?_) <;> intro h <;> (try (simp (disch := first | exact dq | fail) only [go_sem] at h)) <;> try (simp (disch := first | exact dq | fail) only [go_sem, h, c0, fdiv2, eh, hless, decide_true, decide_false]))
  | ((first | with_reducible apply left_callf | with_reducible apply leftD_callf); (· with_reducible rfl); (· (simp (disch := first | exact dq | fail) only [go_sem, c0, fdiv2, eh, hless, decide_true, decide_false]) <;> rfl); (· (first | exact Less_spec ..)); try (simp (disch := first | exact dq | fail) only [go_sem, c0, fdiv2, eh, hless, decide_true, decide_false])) | fail)
      all_goals (try omega)
      refine ⟨(i, (i + j) / 2), ⟨by dsimp only; omega, hlo, fun m h1 h2 => ?_⟩, wk_by [] ?_, by dsimp only; omega⟩
      · dsimp only at h1
        have := hs ((i + j) / 2) m h1 h2
        omega
      · (simp (disch := first | exact dq | fail) only [go_sem])
        congr 2
  · have hf : findI l x = i := findI_at hlo (by omega) (by
      by_cases e : i = l.length
      · exact .inl e
      · exact .inr (hhi i (by omega) (by omega)))
    have c0 : ¬ ((i : Int) < j) := by omega
    rw [hf]
    by_cases hil : i < l.length
    · have c1 : ((i : Int) < l.length) := by omega
      by_cases he : l.getD i 0 = x
      · (repeat' first
  | ((with_reducible first | refine Nx.go ?_ | refine And.intro ?_ ?_ | fail) <;> try (simp (disch := first | exact dq | fail) only [go_sem, c0, c1, he, decide_true, decide_false]))
  | ((with_reducible refine Sp.go ?_ ?_) <;> intro h <;> (try (simp (disch := first | exact dq | fail) only [go_sem] at h)) <;> try (simp (disch := first | exact dq | fail) only [go_sem, h, c0, c1, he, decide_true, decide_false]))
  | ((first | with_reducible apply left_callf | with_reducible apply leftD_callf); (· with_reducible rfl); (· (simp (disch := first | exact dq | fail) only [go_sem, c0, c1, he, decide_true, decide_false]) <;> rfl); (· (first | exact isNaNs_spec ..)); try (simp (disch := first | exact dq | fail) only [go_sem, c0, c1, he, decide_true, decide_false])) | fail)
        all_goals (try omega)
        all_goals (simp (disch := first | exact dq | fail) only [go_sem, hil, he, decide_true, Bool.and_self])
      · (repeat' first
  | ((with_reducible first | refine Nx.go ?_ | refine And.intro ?_ ?_ | fail) <;> try (simp (disch := first | exact dq | fail) only [go_sem, c0, c1, he, decide_false, decide_true]))
  | ((with_reducible refine Sp.go ?_ ?_) <;> intro h <;> (try (simp (disch := first | exact dq | fail) only [go_sem] at h)) <;> try (simp (disch := first | exact dq | fail) only [go_sem, h, c0, c1, he, decide_false, decide_true]))
  | ((first | with_reducible apply left_callf | with_reducible apply leftD_callf); (· with_reducible rfl); (· (simp (disch := first | exact dq | fail) only [go_sem, c0, c1, he, decide_false, decide_true]) <;> rfl); (· (first | exact isNaNs_spec ..)); try (simp (disch := first | exact dq | fail) only [go_sem, c0, c1, he, decide_false, decide_true])) | fail)
        all_goals (try omega)
        all_goals (simp (disch := first | exact dq | fail) only [go_sem, hil, he, decide_true, decide_false, Bool.and_false])
    · have c1 : ¬ ((i : Int) < l.length) := by omega
      (repeat' first
  | ((first | refine Nx.go ?_ | fail) <;> try (simp (disch := first | exact dq | fail) only [go_sem, c0, c1, decide_false]))
  | ((with_reducible refine Sp.go ?_ ?_) <;> intro h <;> (try (simp (disch := first | exact dq | fail) only [go_sem] at h)) <;> try (simp (disch := first | exact dq | fail) only [go_sem, h, c0, c1, decide_false]))
  | ((first | with_reducible apply left_callf | with_reducible apply leftD_callf); (· with_reducible rfl); (· (simp (disch := first | exact dq | fail) only [go_sem, c0, c1, decide_false]) <;> rfl); (· (first | exact isNaNs_spec ..)); try (simp (disch := first | exact dq | fail) only [go_sem, c0, c1, decide_false])) | fail)
      all_goals (try omega)
      all_goals (simp (disch := first | exact dq | fail) only [go_sem, hil, decide_false, Bool.false_and])
end Go.Proofs.Ytnijpeeehnnipaa.AM

set_option linter.unusedVariables false
set_option linter.unusedSimpArgs false
set_option maxRecDepth 20000
namespace Go.Proofs.Ytnijpeeehnnipaa.AM
open Go Go.RowKit

theorem dedP_mem {f : Nat → Int} : ∀ {i : Nat} {x : Int}, x ∈ dedP f i ↔ ∃ j, j < i ∧ x = f j
  | 0, x => by simp [dedP]
  | i + 1, x => by
    rw [dedP, List.mem_append, dedP_mem (i := i)]
    constructor
    · rintro (⟨j, h1, h2⟩ | h)
      · exact ⟨j, by omega, h2⟩
      · split at h
        · exact ⟨i, by omega, List.mem_singleton.1 h⟩
        · simp at h
    · rintro ⟨j, h1, h2⟩
      by_cases e : j = i
      · subst e
        by_cases hc : j = 0 ∨ f j ≠ f (j - 1)
        · right; rw [if_pos hc, h2]; simp
        · left
          refine ⟨j - 1, by omega, ?_⟩
          rw [h2]
          exact Decidable.not_not.1 (fun h => hc (.inr h))
      · exact .inl ⟨j, by omega, h2⟩
theorem dedP_pair {f : Nat → Int} {n : Nat} (hm : ∀ i j, i ≤ j → j < n → f i ≤ f j) : ∀ i, i ≤ n → (dedP f i).Pairwise (· < ·)
  | 0, _ => List.Pairwise.nil
  | i + 1, hi => by
    rw [dedP, List.pairwise_append]
    refine ⟨dedP_pair hm i (by omega), by split <;> simp, fun a ha b hb => ?_⟩
    split at hb
    · rename_i hc
      rw [List.mem_singleton] at hb
      subst hb
      obtain ⟨j, h1, rfl⟩ := dedP_mem.1 ha
      have h2 := hm j (i - 1) (by omega) (by omega)
      have h3 := hm (i - 1) i (by omega) (by omega)
      rcases hc with hc | hc
      · omega
      · omega
    · simp at hb
theorem srt_mono {l : List Int} (h : l.Pairwise (· ≤ ·)) : ∀ i j, i ≤ j → j < l.length → l.getD i 0 ≤ l.getD j 0 := by
  intro i j hij hj
  by_cases e : i = j
  · rw [e]; exact Int.le_refl _
  · have := List.pairwise_iff_getElem.1 h i j (by omega) hj (by omega)
    simpa [List.getD, List.getElem?_eq_getElem, hj, show i < l.length by omega] using this
def setI (l : List Int) : List Int := ded (sortI l)
theorem setI_mem {l : List Int} {x : Int} : x ∈ setI l ↔ x ∈ l := by
  unfold setI ded
  rw [dedP_mem, ← (sortI_perm l).mem_iff, List.mem_iff_getElem]
  constructor
  · rintro ⟨j, h1, h2⟩
    exact ⟨j, h1, by rw [h2]; simp [List.getD, List.getElem?_eq_getElem h1]⟩
  · rintro ⟨j, h1, h2⟩
    exact ⟨j, h1, by rw [← h2]; simp [List.getD, List.getElem?_eq_getElem h1]⟩
theorem setI_pair (l : List Int) : (setI l).Pairwise (· < ·) := dedP_pair (srt_mono (sortI_srt l)) _ (Nat.le_refl _)
theorem setI_len (l : List Int) : (setI l).length ≤ l.length := by
  have := dedP_le (fun m => (sortI l).getD m 0) (sortI l).length
  rw [sortI_len] at this
  unfold setI ded
  rw [sortI_len]; exact this
def rankL (l : List Int) : List Int := l.map fun k => (findI (setI l) k : Int)
theorem rankL_len (l : List Int) : (rankL l).length = l.length := by simp [rankL]
theorem insertion_e : PCalls Try.prog 82 [inl [], .int .i64 0, .int .i64 0] (.tup []) := by
  refine PCalls.of_aw Try.func82 rfl (by unfold Callable; kernel_rfl) (by kernel_rfl) (by simp [Try.ntmps82]) ?_; rw [Try.ntmps82, Try.results82]; (simp (disch := first | exact dq | fail) only [go_sem])
  (repeat' (with_reducible first | refine Nx.go ?_ | refine aw_rounds 64 ?_ | refine awN_step ?_ | fail) <;> try (simp (disch := first | exact dq | fail) only [go_sem]))
theorem pdq_e (d : Int) : PCalls Try.prog 75 [inl [], .int .i64 0, .int .i64 0, .int .i64 d] (.tup []) := by
  refine PCalls.of_aw Try.func75 rfl (by unfold Callable; kernel_rfl) (by kernel_rfl) (by simp [Try.ntmps75]) ?_; rw [Try.ntmps75, Try.results75]; (simp (disch := first | exact dq | fail) only [go_sem])
  (repeat' (with_reducible first | refine Nx.go ?_ | refine aw_rounds 64 ?_ | refine awN_step ?_ | fail) <;> try (simp (disch := first | exact dq | fail) only [go_sem]))
  ((with_reducible first | apply left_callf | apply leftD_callf | apply leftF_callf); (· with_reducible rfl); (· (simp (disch := first | exact dq | fail) only [go_sem]) <;> rfl); (· exact insertion_e); try (simp (disch := first | exact dq | fail) only [go_sem]))
  (repeat' (with_reducible first | refine Nx.go ?_ | refine aw_rounds 64 ?_ | refine awN_step ?_ | fail) <;> try (simp (disch := first | exact dq | fail) only [go_sem]))
theorem Sort_e : PCalls Try.prog 67 [inl []] (.tup []) := by
  have h := Len_spec64 0 (by decide)
  refine PCalls.of_aw Try.func67 rfl (by unfold Callable; kernel_rfl) (by kernel_rfl) (by simp [Try.ntmps67]) ?_; rw [Try.ntmps67, Try.results67]; (simp (disch := first | exact dq | fail) only [go_sem])
  (repeat' (first | refine Nx.go ?_ | fail) <;> try (simp (disch := first | exact dq | fail) only [go_sem]))
  ((with_reducible first | apply left_callf | apply leftD_callf | apply leftF_callf); (· with_reducible rfl); (· (simp (disch := first | exact dq | fail) only [go_sem]) <;> rfl); (· exact h); try (simp (disch := first | exact dq | fail) only [go_sem]))
  ((with_reducible first | apply left_callf | apply leftD_callf | apply leftF_callf); (· with_reducible rfl); (· (simp (disch := first | exact dq | fail) only [go_sem]) <;> rfl); (· exact pdq_e _); try (simp (disch := first | exact dq | fail) only [go_sem]))
  (repeat' (first | refine Nx.go ?_ | fail) <;> try (simp (disch := first | exact dq | fail) only [go_sem]))
theorem Compact_e : PCalls Try.prog 68 [inl []] (inl []) := by
  refine PCalls.of_aw Try.func68 rfl (by unfold Callable; kernel_rfl) (by kernel_rfl) (by simp [Try.ntmps68]) ?_; rw [Try.ntmps68, Try.results68]; (simp (disch := first | exact dq | fail) only [go_sem])
  (repeat' (first | refine Nx.go ?_ | fail) <;> try (simp (disch := first | exact dq | fail) only [go_sem]))
theorem aops_one {P : Program} {ops : List Oper} {Q : St → Prop} {s : St} {o : Oper} {rest : List Oper} (c : Cls) (v : AV) (M' : List MO) (hw : s.want ops o = some true) (he : eff P o s.ev s.M = some (c, v, M'))
    (h : aops P ops rest Q ({ s with M := M' }.put o.dst v)) : aops P ops (o :: rest) Q s := .inl ⟨c, _, .eff s c v M' hw he, h⟩
theorem Clone_e : PCalls Try.prog 66 [inl []] (inl []) := by
  refine PCalls.of_aw Try.func66 rfl (by unfold Callable; kernel_rfl) (by kernel_rfl) (by simp [Try.ntmps66]) ?_; rw [Try.ntmps66, Try.results66]; (simp (disch := first | exact dq | fail) only [go_sem])
  ((with_reducible refine aw_seq ?_); (with_reducible refine aw_region (aops_run ?_)); try (simp (disch := first | exact dq | fail) only [go_sem]))
  refine aw_seq (aw_seq (aw_region ?_))
  refine aops_one .p (.iv (inl [])) _ rfl rfl ?_
  refine aops_nil 28 28 (.tmp 3) 1 rfl rfl (by (simp (disch := first | exact dq | fail) only [go_sem])) (by (simp (disch := first | exact dq | fail) only [go_sem])) ?_
  intro b
  (simp (disch := first | exact dq | fail) only [go_sem])
  cases b
  · (repeat' (first | refine Nx.go ?_ | fail) <;> try (simp (disch := first | exact dq | fail) only [go_sem]))
  · (repeat' (first | refine Nx.go ?_ | fail) <;> try (simp (disch := first | exact dq | fail) only [go_sem]))
theorem Ranks_spec (l : List Int) (hl : l.length ≤ 1000000) : PCalls Try.prog 48 [inl l] (inl (rankL l)) := by
  by_cases h0 : l = []
  · subst h0
    refine PCalls.of_aw Try.func48 rfl (by unfold Callable; kernel_rfl) (by kernel_rfl) (by simp [Try.ntmps48]) ?_; rw [Try.ntmps48, Try.results48]; (simp (disch := first | exact dq | fail) only [go_sem])
    (repeat' (first | refine Nx.go ?_ | fail) <;> try (simp (disch := first | exact dq | fail) only [go_sem]))
    ((with_reducible first | apply left_callf | apply leftD_callf | apply leftF_callf); (· with_reducible rfl); (· (simp (disch := first | exact dq | fail) only [go_sem]) <;> rfl); (· exact Clone_e); try (simp (disch := first | exact dq | fail) only [go_sem]))
    (repeat' (first | refine Nx.go ?_ | fail) <;> try (simp (disch := first | exact dq | fail) only [go_sem]))
    ((with_reducible first | apply left_callf | apply leftD_callf | apply leftF_callf); (· with_reducible rfl); (· (simp (disch := first | exact dq | fail) only [go_sem]) <;> rfl); (· exact Sort_e); try (simp (disch := first | exact dq | fail) only [go_sem]))
    (repeat' (first | refine Nx.go ?_ | fail) <;> try (simp (disch := first | exact dq | fail) only [go_sem]))
    ((with_reducible first | apply left_callf | apply leftD_callf | apply leftF_callf); (· with_reducible rfl); (· (simp (disch := first | exact dq | fail) only [go_sem]) <;> rfl); (· exact Compact_e); try (simp (disch := first | exact dq | fail) only [go_sem]))
    (repeat' (with_reducible first | refine Nx.go ?_ | refine aw_rounds 64 ?_ | refine awN_step ?_ | fail) <;> try (simp (disch := first | exact dq | fail) only [go_sem]))
    rfl
  have hpos : 0 < l.length := List.length_pos_iff.2 h0
  have hS := Compact_M (sortI l) (by rw [sortI_len]; exact hl)
  rw [sortI_len] at hS
  change MCalls _ _ _ _ (.msl 0 0 (setI l).length _) [.row _ _ _ ((setI l ++ List.replicate (l.length - (setI l).length) 0).map _)] at hS
  have hsl := setI_len l
  refine PCalls.of_aw Try.func48 rfl (by unfold Callable; kernel_rfl) (by kernel_rfl) (by simp [Try.ntmps48]) ?_; rw [Try.ntmps48, Try.results48]; (simp (disch := first | exact dq | fail) only [go_sem])
  (repeat' (first | refine Nx.go ?_ | fail) <;> try (simp (disch := first | exact dq | fail) only [go_sem]))
  ((first | with_reducible refine left_callMs [] (Clone_M l hpos hl) ?_ ?_ | with_reducible refine leftD_callMs [] rfl (Clone_M l hpos hl) ?_ ?_ | with_reducible refine leftD_callRs [] (by decide) (Clone_M l hpos hl) ?_ ?_); (· (simp (disch := first | exact dq | fail) only [go_sem])); try (simp (disch := first | exact dq | fail) only [go_sem]))
  (repeat' (first | refine Nx.go ?_ | fail) <;> try (simp (disch := first | exact dq | fail) only [go_sem]))
  ((first | with_reducible refine left_callMs [1] (Sort_M l hl) ?_ ?_ | with_reducible refine leftD_callMs [1] rfl (Sort_M l hl) ?_ ?_ | with_reducible refine leftD_callRs [1] (by decide) (Sort_M l hl) ?_ ?_); (· (simp (disch := first | exact dq | fail) only [go_sem])); try (simp (disch := first | exact dq | fail) only [go_sem]))
  (repeat' (first | refine Nx.go ?_ | fail) <;> try (simp (disch := first | exact dq | fail) only [go_sem]))
  ((first | with_reducible refine left_callMs [1] (hS) ?_ ?_ | with_reducible refine leftD_callMs [1] rfl (hS) ?_ ?_ | with_reducible refine leftD_callRs [1] (by decide) (hS) ?_ ?_); (· (simp (disch := first | exact dq | fail) only [go_sem])); try (simp (disch := first | exact dq | fail) only [go_sem]))
  (repeat' (first | refine Nx.go ?_ | fail) <;> try (simp (disch := first | exact dq | fail) only [go_sem]))
  have hmono : ∀ i j, i ≤ j → j < (setI l).length → (setI l).getD i 0 ≤ (setI l).getD j 0 := srt_mono ((setI_pair l).imp (fun h => Int.le_of_lt h))
  have hfz : List.take (setI l).length ((setI l ++ List.replicate (l.length - (setI l).length) 0).map (IV.int .i64)) = (setI l).map (IV.int .i64) := by
    rw [← List.map_take, List.take_left' rfl]
  have hlz : ((setI l ++ List.replicate (l.length - (setI l).length) 0).map (IV.int .i64)).length = l.length := by
    simp; omega
  have hrk : ∀ i, i < l.length → (rankL l).take (i + 1) = (rankL l).take i ++ [(findI (setI l) (l.getD i 0) : Int)] := by
    intro i hi
    rw [take_snoc _ (by rw [rankL_len]; exact hi)]
    congr 2
    unfold rankL
    simp [List.getD, List.getElem?_eq_getElem hi]
  generalize hR : (setI l ++ List.replicate (l.length - (setI l).length) 0).map (IV.int .i64) = R at *
  have hB := fun x => Bs_spec (setI l) x (by omega) hmono
  have hrl := rankL_len l
  generalize rankL l = r at *
  refine aw_loop (α := Nat) (fun i => ⟨33, sl [(3, .iv (inl (setI l))), (4, .msl 0 0 i i), (15, .iv (inl l)), (16, .iv (.int .i64 l.length)), (17, .iv (.int .i64 i))], [.row true 3 1 ((r.take i).map (IV.int .i64))], 0⟩)
    (fun i => i ≤ l.length) (fun i => l.length - i) 0 ((wk_frz (i := 3) (y := inl (setI l)) (M' := [.row true 3 1 [], .row false 3 1 R, .row true 3 1 []]) ?_).trans (wk_by [2] ?_)) (by omega) ?_
  · (simp (disch := first | exact dq | fail) only [go_sem, hlz, hfz, hsl])
  · (simp (disch := first | exact dq | fail) only [go_sem])
  rintro i hi
  by_cases hlt : i < l.length
  · obtain ⟨v, hv⟩ := hB (l.getD i 0)
    have htk : (r.take i).length = i := by rw [List.length_take]; omega
    have hsn := hrk i hlt
    (repeat' first
  | ((with_reducible first | refine Nx.go ?_ | refine And.intro ?_ ?_ | fail) <;> try (simp (disch := first | exact dq | fail) only [go_sem, htk]))
  | ((with_reducible refine Sp.go ?_ ?_) <;> intro h <;> (try (simp (disch := first | exact dq | fail) only [go_sem] at h)) <;> try (simp (disch := first | exact dq | fail) only [go_sem, h, htk])) | fail)
    all_goals (try omega)
    ((with_reducible first | apply left_callf | apply leftD_callf | apply leftF_callf); (· with_reducible rfl); (· (simp (disch := first | exact dq | fail) only [go_sem]) <;> rfl); (· exact hv); try (simp (disch := first | exact dq | fail) only [go_sem]))
    (repeat' (with_reducible first | refine Nx.go ?_ | refine And.intro ?_ ?_ | fail) <;> try (simp (disch := first | exact dq | fail) only [go_sem, htk]))
    all_goals (try omega)
    refine ⟨i + 1, by omega, wk_by [0] ?_, by omega⟩
    (simp (disch := first | exact dq | fail) only [go_sem, hsn, List.map_append])
  · have : i = l.length := by omega
    subst this
    have htk : r.take l.length = r := List.take_of_length_le (by omega)
    have htk2 : List.take l.length (r.map (IV.int .i64)) = r.map (IV.int .i64) := List.take_of_length_le (by rw [List.length_map]; omega)
    rw [htk]
    (repeat' first
  | ((with_reducible first | refine Nx.go ?_ | refine And.intro ?_ ?_ | fail) <;> try (simp (disch := first | exact dq | fail) only [go_sem, hrl, htk2]))
  | ((with_reducible refine Sp.go ?_ ?_) <;> intro h <;> (try (simp (disch := first | exact dq | fail) only [go_sem] at h)) <;> try (simp (disch := first | exact dq | fail) only [go_sem, h, hrl, htk2])) | fail)
    all_goals (try omega)
end Go.Proofs.Ytnijpeeehnnipaa.AM

set_option linter.unusedVariables false
set_option linter.unusedSimpArgs false
set_option maxRecDepth 20000
namespace Go.Proofs.Ytnijpeeehnnipaa.AM
open Go Go.RowKit

theorem pair_get {D : List Int} (h : D.Pairwise (· < ·)) {i j : Nat} (hij : i < j) (hj : j < D.length) : D.getD i 0 < D.getD j 0 := by
  have := List.pairwise_iff_getElem.1 h i j (by omega) hj hij
  simpa [List.getD, List.getElem?_eq_getElem, hj, show i < D.length by omega] using this
theorem find_at {D : List Int} (h : D.Pairwise (· < ·)) {j : Nat} (hj : j < D.length) : findI D (D.getD j 0) = j :=
  findI_at (fun k hk => pair_get h hk hj) (by omega) (.inr (Int.le_refl _))
theorem find_of {D : List Int} (h : D.Pairwise (· < ·)) {x : Int} (hx : x ∈ D) : findI D x < D.length ∧ D.getD (findI D x) 0 = x := by
  obtain ⟨j, hj, e⟩ := List.mem_iff_getElem.1 hx
  have e2 : D.getD j 0 = x := by simp [List.getD, List.getElem?_eq_getElem hj, e]
  rw [← e2, find_at h hj]
  exact ⟨hj, rfl⟩
theorem rank_get {l : List Int} {i : Nat} (h : i < l.length) : (rankL l).getD i 0 = (findI (setI l) (l.getD i 0) : Int) := by
  unfold rankL
  simp [List.getD, List.getElem?_eq_getElem h]
theorem rank_range {l : List Int} {i : Nat} (h : i < l.length) : 0 ≤ (rankL l).getD i 0 ∧ (rankL l).getD i 0 < (setI l).length := by
  rw [rank_get h]
  have := find_of (setI_pair l) (setI_mem.2 (getD_mem h))
  omega
theorem rank_lt {l : List Int} {i k : Nat} (hi : i < l.length) (hk : k < l.length) : (rankL l).getD i 0 < (rankL l).getD k 0 ↔ l.getD i 0 < l.getD k 0 := by
  rw [rank_get hi, rank_get hk]
  have h1 := find_of (setI_pair l) (setI_mem.2 (getD_mem hi))
  have h2 := find_of (setI_pair l) (setI_mem.2 (getD_mem hk))
  constructor
  · intro h
    have := pair_get (setI_pair l) (i := findI (setI l) (l.getD i 0)) (j := findI (setI l) (l.getD k 0)) (by omega) h2.1
    rw [h1.2, h2.2] at this; exact this
  · intro h
    rcases Nat.lt_trichotomy (findI (setI l) (l.getD i 0)) (findI (setI l) (l.getD k 0)) with g | g | g
    · omega
    · have e1 := h1.2
      rw [g, h2.2] at e1; omega
    · have := pair_get (setI_pair l) g h1.1
      rw [h1.2, h2.2] at this; omega
theorem rank_eq {l : List Int} {i k : Nat} (hi : i < l.length) (hk : k < l.length) : (rankL l).getD i 0 = (rankL l).getD k 0 ↔ l.getD i 0 = l.getD k 0 := by
  have h1 := rank_lt hi hk
  have h2 := rank_lt hk hi
  omega
end Go.Proofs.Ytnijpeeehnnipaa.AM

set_option linter.unusedVariables false
set_option linter.unusedSimpArgs false
set_option maxRecDepth 20000
namespace Go.Proofs.Ytnijpeeehnnipaa.AM
open Go Go.RowKit

theorem adj_pairwise {r : Int → Int → Prop} (ht : ∀ a b c, r a b → r b c → r a c) {D : List Int} (h : ∀ i, i + 1 < D.length → r (D.getD i 0) (D.getD (i + 1) 0)) : D.Pairwise r := by
  rw [List.pairwise_iff_getElem]
  intro i j hi hj hij
  have key : ∀ d, i + 1 + d < D.length → r (D.getD i 0) (D.getD (i + 1 + d) 0) := by
    intro d
    induction d with
    | zero => intro hd; exact h i hd
    | succ d ih => intro hd; exact ht _ _ _ (ih (by omega)) (h (i + 1 + d) (by omega))
  have := key (j - i - 1) (by omega)
  rw [show i + 1 + (j - i - 1) = j by omega] at this
  simpa [List.getD, List.getElem?_eq_getElem, hi, hj] using this
theorem stab_unique {K : Nat → Nat} {n : Nat} {D : List Int} (hp : D.Perm (idL n)) (hn : ∀ i a b : Nat, i + 1 < n → D.getD i 0 = (a : Int) → D.getD (i + 1) 0 = (b : Int) → K a < K b ∨ K a = K b ∧ a < b) : D = stabG K n := by
  have hq := allB_perm (stabG_all K n)
  rw [stabG_len] at hq
  have hl : D.length = n := by rw [hp.length_eq]; simp [idL]
  have hl2 := stabG_len K n
  have adj : ∀ (E : List Int), E.Perm (idL n) → E.length = n → (∀ i a b : Nat, i + 1 < n → E.getD i 0 = (a : Int) → E.getD (i + 1) 0 = (b : Int) → K a < K b ∨ K a = K b ∧ a < b) →
      E.Pairwise (fun x y => K x.toNat < K y.toNat ∨ K x.toNat = K y.toNat ∧ x < y) := by
    intro E hE hEl h
    refine adj_pairwise (fun a b c h1 h2 => by omega) (fun i hi => ?_)
    obtain ⟨a, ha, ea⟩ := mem_idL.1 (hE.mem_iff.1 (getD_mem (l := E) (k := i) (by omega)))
    obtain ⟨b, hb, eb⟩ := mem_idL.1 (hE.mem_iff.1 (getD_mem (l := E) (k := i + 1) (by omega)))
    have := h i a b (by omega) ea eb
    rw [ea, eb, Int.toNat_natCast, Int.toNat_natCast]
    omega
  refine perm_srt_eq (fun a b h1 h2 => by omega) (hp.trans hq.symm) (adj D hp hl hn) (adj _ hq hl2 (fun i a b hi ha hb => (stabG_next K hi ha hb).2.2))
theorem idL_len (n : Nat) : (idL n).length = n := by simp [idL]
end Go.Proofs.Ytnijpeeehnnipaa.AM

set_option linter.unusedVariables false
set_option linter.unusedSimpArgs false
set_option maxRecDepth 20000
namespace Go.Proofs.Ytnijpeeehnnipaa.AM
open Go Go.RowKit

/-! ### the documents' count -/
/-! ### pairs as one number -/
def encF (a b : List Int) (i : Nat) : Int := (rankL a).getD i 0 * (max a.length 1 : Nat) + (rankL b).getD i 0
def encL (a b : List Int) : List Int := (List.range a.length).map (encF a b)
theorem encL_len (a b : List Int) : (encL a b).length = a.length := by simp [encL]
theorem encL_get {a b : List Int} {i : Nat} (h : i < a.length) : (encL a b).getD i 0 = encF a b i := range_atQ h
def pairL (a b : List Int) : List Int := rankL (encL a b)
theorem enc_parts {a b : List Int} (hl : a.length = b.length) {i : Nat} (hi : i < a.length) :
    0 ≤ (rankL a).getD i 0 ∧ (rankL a).getD i 0 < (max a.length 1 : Nat) ∧ 0 ≤ (rankL b).getD i 0 ∧ (rankL b).getD i 0 < (max a.length 1 : Nat) := by
  have h1 := rank_range hi
  have h2 := rank_range (l := b) (i := i) (by omega)
  have h3 := setI_len a
  have h4 := setI_len b
  omega
theorem lex_lt {x y x' y' s : Int} (h1 : 0 ≤ y) (h2 : y < s) (h3 : 0 ≤ y') (h4 : y' < s) : x * s + y < x' * s + y' ↔ x < x' ∨ x = x' ∧ y < y' := by
  rcases Int.lt_trichotomy x x' with h | h | h
  · have : (x + 1) * s ≤ x' * s := Int.mul_le_mul_of_nonneg_right (by omega) (by omega)
    rw [Int.add_mul, Int.one_mul] at this
    omega
  · subst h; omega
  · have : (x' + 1) * s ≤ x * s := Int.mul_le_mul_of_nonneg_right (by omega) (by omega)
    rw [Int.add_mul, Int.one_mul] at this
    omega
theorem enc_lt {a b : List Int} (hl : a.length = b.length) {i k : Nat} (hi : i < a.length) (hk : k < a.length) :
    encF a b i < encF a b k ↔ a.getD i 0 < a.getD k 0 ∨ a.getD i 0 = a.getD k 0 ∧ b.getD i 0 < b.getD k 0 := by
  have h1 := enc_parts hl hi
  have h2 := enc_parts hl hk
  unfold encF
  rw [lex_lt h1.2.2.1 h1.2.2.2 h2.2.2.1 h2.2.2.2, rank_lt hi hk, rank_eq hi hk, rank_lt (l := b) (by omega) (by omega)]
theorem enc_eq {a b : List Int} (hl : a.length = b.length) {i k : Nat} (hi : i < a.length) (hk : k < a.length) :
    encF a b i = encF a b k ↔ a.getD i 0 = a.getD k 0 ∧ b.getD i 0 = b.getD k 0 := by
  have h1 := enc_lt hl hi hk
  have h2 := enc_lt hl hk hi
  omega
/-! ### places by two keys, one behind the other -/
theorem posK_lex {K : Nat → Nat} {n a b : Nat} (ha : a < n) (hb : b < n) (h : posK K n a < posK K n b) : K a < K b ∨ K a = K b ∧ a < b := by
  rcases Nat.lt_trichotomy (K a) (K b) with g | g | g
  · exact .inl g
  · rcases Nat.lt_trichotomy a b with g' | g' | g'
    · exact .inr ⟨g, g'⟩
    · subst g'; omega
    · have := posK_before hb ha (.inr ⟨g.symm, g'⟩); omega
  · have := posK_before hb ha (.inl g); omega
theorem two_sorts {K Y E : Nat → Nat} {n : Nat} (hE : ∀ a b, a < n → b < n → (K a < K b ∨ K a = K b ∧ Y a < Y b) → E a < E b)
    (hE2 : ∀ a b, a < n → b < n → K a = K b → Y a = Y b → E a = E b) :
    (List.range n).map (outF (fun t => K ((stabG Y n).getD t 0).toNat) (stabG Y n) n) = stabG E n := by
  have hlP := stabG_len Y n
  obtain ⟨K', hK'⟩ : ∃ K' : Nat → Nat, K' = fun t => K ((stabG Y n).getD t 0).toNat := ⟨_, rfl⟩
  rw [← hK']
  have hat : ∀ t, t < n → ((List.range n).map (outF K' (stabG Y n) n)).getD (posK K' n t) 0 = (stabG Y n).getD t 0 := by
    intro t ht
    have := outF_at K' (stabG Y n) t (fun t2 h1 h2 => by rw [hlP] at h1 ⊢; exact (posK_inj K' n h2 h1).symm) n ht (by rw [hlP]; exact Nat.le_refl _)
    rw [hlP] at this
    rw [range_atQ (posK_lt K' ht), this]
  have hperm : ((List.range n).map (outF K' (stabG Y n) n)).Perm (idL n) := by
    have h := allB_perm (p := (List.range n).map (outF K' (stabG Y n) n)) (allB_yes (fun v hv => by
      rw [List.length_map, List.length_range] at hv
      have h1 := hat (posK Y n v) (posK_lt Y hv)
      rw [stabG_at Y hv] at h1
      rw [← h1]
      exact getD_mem (by rw [List.length_map, List.length_range]; exact posK_lt K' (posK_lt Y hv))))
    rwa [List.length_map, List.length_range] at h
  refine stab_unique hperm (fun p a b hp ha hb => ?_)
  obtain ⟨t, _, ht, htp⟩ := stabG_who K' (n := n) (p := p) (by omega)
  obtain ⟨t', _, ht', htp'⟩ := stabG_who K' (n := n) (p := p + 1) hp
  rw [← htp, hat t ht] at ha
  rw [← htp', hat t' ht'] at hb
  obtain ⟨a', ea, ha', hpa⟩ := stabG_who Y ht
  obtain ⟨b', eb, hb', hpb⟩ := stabG_who Y ht'
  have e1 : a' = a := by omega
  have e2 : b' = b := by omega
  subst e1 e2
  have hlex := posK_lex ht ht' (show posK K' n t < posK K' n t' by omega)
  have k1 : K' t = K a' := by rw [hK']; dsimp only; rw [ea, Int.toNat_natCast]
  have k2 : K' t' = K b' := by rw [hK']; dsimp only; rw [eb, Int.toNat_natCast]
  rw [k1, k2] at hlex
  rcases hlex with h | ⟨h, h2⟩
  · exact .inl (hE a' b' ha' hb' (.inl h))
  · rcases posK_lex ha' hb' (show posK Y n a' < posK Y n b' by omega) with g | ⟨g, g2⟩
    · exact .inl (hE a' b' ha' hb' (.inr ⟨h, g⟩))
    · exact .inr ⟨hE2 a' b' ha' hb' h g, g2⟩
/-! ### how many different ones so far -/
theorem dedP_pre (f : Nat → Int) {i j : Nat} (h : i ≤ j) : ∃ r, dedP f j = dedP f i ++ r := by
  induction j with
  | zero => exact ⟨[], by rw [show i = 0 by omega]; rfl⟩
  | succ j ih =>
    by_cases e : i = j + 1
    · subst e; exact ⟨[], by simp⟩
    · obtain ⟨r, hr⟩ := ih (by omega)
      rw [dedP, hr]
      exact ⟨r ++ _, by rw [List.append_assoc]⟩
theorem dedP_last (f : Nat → Int) : ∀ k, 0 < (dedP f (k + 1)).length ∧ (dedP f (k + 1)).getD ((dedP f (k + 1)).length - 1) 0 = f k
  | 0 => by simp [dedP]
  | k + 1 => by
    by_cases h : f (k + 1) = f k
    · have := dedP_eq (f := f) (i := k + 1) (by omega) h
      rw [this, h]; exact dedP_last f k
    · have := dedP_ne (f := f) (i := k + 1) h
      rw [this]
      simp [List.getD]
theorem dedP_find {f : Nat → Int} {n k : Nat} (hm : ∀ i j, i ≤ j → j < n → f i ≤ f j) (hk : k < n) : findI (dedP f n) (f k) = (dedP f (k + 1)).length - 1 := by
  have hp := dedP_pair hm n (Nat.le_refl _)
  obtain ⟨r, hr⟩ := dedP_pre f (show k + 1 ≤ n by omega)
  obtain ⟨h1, h2⟩ := dedP_last f k
  have h3 : (dedP f n).getD ((dedP f (k + 1)).length - 1) 0 = f k := by
    rw [hr]
    simp only [List.getD] at h2 ⊢
    rw [List.getElem?_append_left (by omega)]; exact h2
  rw [← h3]
  exact find_at hp (by rw [hr, List.length_append]; omega)
theorem dedP_congr {f g : Nat → Int} : ∀ {n : Nat}, (∀ i, i < n → f i = g i) → dedP f n = dedP g n
  | 0, _ => rfl
  | n + 1, h => by
    rw [dedP, dedP, dedP_congr (fun i hi => h i (by omega)), h n (by omega)]
    by_cases e : n = 0
    · rw [if_pos (.inl e), if_pos (.inl e)]
    · rw [h (n - 1) (by omega)]
end Go.Proofs.Ytnijpeeehnnipaa.AM

set_option linter.unusedVariables false
set_option linter.unusedSimpArgs false
set_option maxRecDepth 20000
namespace Go.Proofs.Ytnijpeeehnnipaa.AM
open Go Go.RowKit

section
variable (a b : List Int)
def encE (t : Nat) : Nat := (encF a b t).toNat
def pS (k : Nat) : Int := encF a b ((stabG (encE a b) a.length).getD k 0).toNat
def outR (k m : Nat) : Int := if posK (encE a b) a.length m < k then ((dedP (pS a b) (posK (encE a b) a.length m + 1)).length : Int) - 1 else 0
end
theorem enc_nn {a b : List Int} (hl : a.length = b.length) {i : Nat} (hi : i < a.length) : 0 ≤ encF a b i := by
  have h1 := enc_parts hl hi
  unfold encF
  have := Int.mul_nonneg h1.1 (show (0 : Int) ≤ (max a.length 1 : Nat) by omega)
  omega
theorem pS_mono {a b : List Int} (hl : a.length = b.length) : ∀ i j, i ≤ j → j < a.length → pS a b i ≤ pS a b j := by
  have h : Srt (pS a b) 0 a.length := srt_adj (fun i _ hi => by
    obtain ⟨u, hu, hu2, _⟩ := stabG_who (encE a b) (n := a.length) (p := i) (by omega)
    obtain ⟨v, hv, hv2, _⟩ := stabG_who (encE a b) (n := a.length) (p := i + 1) hi
    have h1 := (stabG_next (encE a b) hi hu hv).2.2
    have h2 := enc_nn hl hu2
    have h3 := enc_nn hl hv2
    unfold pS
    rw [hu, hv, Int.toNat_natCast, Int.toNat_natCast]
    unfold encE at h1
    omega)
  intro i j hij hj
  by_cases e : i = j
  · rw [e]; exact Int.le_refl _
  · exact h i j (Nat.zero_le _) (by omega) hj
theorem pS_set (a b : List Int) (hl : a.length = b.length) : setI (encL a b) = dedP (pS a b) a.length := by
  have hq := allB_perm (stabG_all (encE a b) a.length)
  rw [stabG_len] at hq
  have hlen := stabG_len (encE a b) a.length
  have hp : ((List.range a.length).map (pS a b)).Perm (encL a b) := by
    have h1 := hq.map (fun v : Int => encF a b v.toNat)
    have e1 : (stabG (encE a b) a.length).map (fun v : Int => encF a b v.toNat) = (List.range a.length).map (pS a b) := by
      apply List.ext_getElem (by simp [hlen])
      intro i h1 h2
      rw [List.length_map, hlen] at h1
      rw [List.getElem_map, List.getElem_map, List.getElem_range]
      unfold pS
      simp [List.getD, List.getElem?_eq_getElem (show i < (stabG (encE a b) a.length).length by omega)]
    have e2 : (idL a.length).map (fun v : Int => encF a b v.toNat) = encL a b := by
      unfold idL encL
      rw [List.map_map]
      exact List.map_congr_left (fun i _ => by simp)
    rwa [e1, e2] at h1
  have hs : ((List.range a.length).map (pS a b)).Pairwise (· ≤ ·) := by
    rw [List.pairwise_map, List.pairwise_iff_getElem]
    intro i j hi hj hij
    rw [List.getElem_range, List.getElem_range]
    exact pS_mono hl i j (by omega) (by simpa using hj)
  have he := sortI_eq hp hs
  unfold setI ded
  rw [← he, List.length_map, List.length_range]
  exact dedP_congr (fun i hi => range_atQ hi)
theorem outR_end {a b : List Int} (hl : a.length = b.length) : IV.sl 1 (rowF a.length (outR a b a.length)) = inl (pairL a b) := by
  rw [rowF_inl]
  congr 1
  refine getD_ext (by unfold pairL; rw [rankL_len, encL_len]; simp) (fun m hm => ?_)
  rw [List.length_map, List.length_range] at hm
  rw [range_atQ hm]
  unfold pairL
  rw [rank_get (by rw [encL_len]; exact hm), encL_get hm, pS_set a b hl]
  have hpk := posK_lt (encE a b) hm
  have h1 := dedP_find (pS_mono hl) hpk
  have h2 : pS a b (posK (encE a b) a.length m) = encF a b m := by
    unfold pS
    rw [stabG_at (encE a b) hm, Int.toNat_natCast]
  rw [h2] at h1
  have h3 := (dedP_last (pS a b) (posK (encE a b) a.length m)).1
  unfold outR
  rw [if_pos hpk, h1]; omega
theorem outR_set {a b : List Int} {k v : Nat} (hk : k < a.length) (hv : v < a.length) (hp : posK (encE a b) a.length v = k) :
    (rowF a.length (outR a b k)).set v (.int .i64 (((dedP (pS a b) (k + 1)).length : Int) - 1)) = rowF a.length (outR a b (k + 1)) := by
  rw [rowF_set]
  refine rowF_congr (fun m hm => ?_)
  unfold outR
  by_cases e : m = v
  · subst e; rw [if_pos rfl, hp, if_pos (by omega)]
  · rw [if_neg e]
    have hne : posK (encE a b) a.length m ≠ k := by
      intro h
      rcases Nat.lt_trichotomy m v with g | g | g
      · exact posK_inj (encE a b) a.length g hv (by omega)
      · exact e g
      · exact posK_inj (encE a b) a.length g hm (by omega)
    by_cases h : posK (encE a b) a.length m < k
    · rw [if_pos h, if_pos (by omega)]
    · rw [if_neg h, if_neg (by omega)]
set_option maxHeartbeats 4000000 in
theorem Pairs_ok (a b : List Int) (hl : a.length = b.length) (hn : a.length ≤ 1000000) : PCalls Try.prog 51 [inl a, inl b] (.tup [inl (pairL a b), .int .i64 0]) := by
  have hc : ((a.length : Int) = b.length) := by omega
  have hxl := rankL_len a
  have hyl := rankL_len b
  have hxr := fun i (hi : i < a.length) => enc_parts hl hi
  have hA := all_spec a.length (by omega)
  rw [rowF_inl] at hA
  change PCalls _ _ _ (inl (idL a.length)) at hA
  obtain ⟨z, hz⟩ : ∃ z, z = max a.length 1 := ⟨_, rfl⟩
  rw [← hz] at hxr
  have hB1 := buckets_spec (idL a.length) (rankL b) z (fun t => ((rankL b).getD t 0).toNat) ⟨fun t ht => by
    rw [idL_len] at ht
    have := hxr t ht
    exact ⟨t, idL_get ht, by omega, by omega, by omega⟩, by omega, by rw [idL_len]; exact hn⟩
  rw [idL_len, rowF_inl] at hB1
  change PCalls _ _ _ (inl (stabG (fun t => ((rankL b).getD t 0).toNat) a.length)) at hB1
  have hB2 := buckets_spec (stabG (fun t => ((rankL b).getD t 0).toNat) a.length) (rankL a) z (fun t => ((rankL a).getD ((stabG (fun t => ((rankL b).getD t 0).toNat) a.length).getD t 0).toNat 0).toNat) ⟨fun t ht => by
    rw [stabG_len] at ht
    obtain ⟨q, hq, hq2, _⟩ := stabG_who (fun t => ((rankL b).getD t 0).toNat) ht
    have := hxr q hq2
    exact ⟨q, hq, by omega, by rw [hq, Int.toNat_natCast]; omega, by rw [hq, Int.toNat_natCast]; omega⟩, by omega, by rw [stabG_len]; exact hn⟩
  rw [stabG_len, rowF_inl] at hB2
  have hts := two_sorts (K := fun v => ((rankL a).getD v 0).toNat) (Y := fun t => ((rankL b).getD t 0).toNat) (E := encE a b) (n := a.length) (fun u v hu hv h => by
    have h1 := hxr u hu
    have h2 := hxr v hv
    have h3 : encF a b u < encF a b v := by
      unfold encF
      rw [← hz, lex_lt h1.2.2.1 h1.2.2.2 h2.2.2.1 h2.2.2.2]; omega
    have h4 := enc_nn hl hu
    unfold encE; omega) (fun u v hu hv h h' => by
    have h1 := hxr u hu
    have h2 := hxr v hv
    unfold encE encF
    rw [show (rankL a).getD u 0 = (rankL a).getD v 0 by omega, show (rankL b).getD u 0 = (rankL b).getD v 0 by omega])
  rw [hts] at hB2
  have hpl := stabG_len (encE a b) a.length
  have hwho := fun p (hp : p < a.length) => stabG_who (encE a b) hp
  have hset := fun k v hk hv hp => @outR_set a b k v hk hv hp
  have hend := outR_end hl
  have heq := fun i k hi hk => @enc_eq a b hl i k hi hk
  have hre := fun i k (hi : i < a.length) (hk : k < a.length) => rank_eq (l := a) hi hk
  have hre2 := fun i k (hi : i < a.length) (hk : k < a.length) => rank_eq (l := b) (i := i) (k := k) (by omega) (by omega)
  have hpS : ∀ k v : Nat, (stabG (encE a b) a.length).getD k 0 = (v : Int) → pS a b k = encF a b v := fun k v h => by
    unfold pS; rw [h, Int.toNat_natCast]
  have h0 : rowF a.length (outR a b 0) = rowF a.length fun _ => 0 := rowF_congr (fun m _ => by unfold outR; rw [if_neg (by omega)])
  have hbl : (b.length : Int) = (a.length : Int) := hc.symm
  have hRa := Ranks_spec a hn
  have hRb := Ranks_spec b (by omega)
  have hmax : max ((a.length : Int)) 1 = (z : Int) := by omega
  obtain ⟨c, hcd⟩ : ∃ c : Nat → Int, c = fun k => ((dedP (pS a b) k).length : Int) - 1 := ⟨_, rfl⟩
  have c0 : c 0 = -1 := by rw [hcd]; rfl
  have c1 : c 1 = 0 := by rw [hcd]; rfl
  have csame : ∀ k, 1 ≤ k → pS a b k = pS a b (k - 1) → c (k + 1) = c k := fun k h1 h2 => by rw [hcd]; dsimp only; rw [dedP_eq h1 h2]
  have cnew : ∀ k, pS a b k ≠ pS a b (k - 1) → c (k + 1) = c k + 1 := fun k h2 => by rw [hcd]; dsimp only; rw [dedP_ne h2, List.length_append]; simp
  have cb : ∀ k, -1 ≤ c k ∧ c k ≤ k := fun k => by rw [hcd]; dsimp only; have := dedP_le (pS a b) k; omega
  have hset2 : ∀ (k v : Nat), k < a.length → v < a.length → posK (encE a b) a.length v = k → (rowF a.length (outR a b k)).set v (.int .i64 (c (k + 1))) = rowF a.length (outR a b (k + 1)) := fun k v h1 h2 h3 => by rw [hcd]; exact hset k v h1 h2 h3
  clear hset hcd
  generalize stabG (encE a b) a.length = p at *
  generalize rankL a = x at *
  generalize rankL b = y at *
  refine PCalls.of_aw Try.func51 rfl (by unfold Callable; kernel_rfl) (by kernel_rfl) (by simp [Try.ntmps51]) ?_; rw [Try.ntmps51, Try.results51]; (simp (maxSteps := 1000000) (disch := first | exact dq | fail) only [go_sem])
  (repeat' (first | refine Nx.go ?_ | fail) <;> try (simp (maxSteps := 1000000) (disch := first | exact dq | fail) only [go_sem, hbl, eq_self, decide_true]))
  ((with_reducible first | apply left_callf | apply leftD_callf | apply leftF_callf); (· with_reducible rfl); (· (simp (maxSteps := 1000000) (disch := first | exact dq | fail) only [go_sem]) <;> rfl); (· exact hRa); try (simp (maxSteps := 1000000) (disch := first | exact dq | fail) only [go_sem]))
  ((with_reducible first | apply left_callf | apply leftD_callf | apply leftF_callf); (· with_reducible rfl); (· (simp (maxSteps := 1000000) (disch := first | exact dq | fail) only [go_sem]) <;> rfl); (· exact hRb); try (simp (maxSteps := 1000000) (disch := first | exact dq | fail) only [go_sem]))
  (repeat' (first | refine Nx.go ?_ | fail) <;> try (simp (maxSteps := 1000000) (disch := first | exact dq | fail) only [go_sem, hmax]))
  ((with_reducible first | apply left_callf | apply leftD_callf | apply leftF_callf); (· with_reducible rfl); (· (simp (maxSteps := 1000000) (disch := first | exact dq | fail) only [go_sem]) <;> rfl); (· exact hA); try (simp (maxSteps := 1000000) (disch := first | exact dq | fail) only [go_sem]))
  ((with_reducible first | apply left_callf | apply leftD_callf | apply leftF_callf); (· with_reducible rfl); (· (simp (maxSteps := 1000000) (disch := first | exact dq | fail) only [go_sem]) <;> rfl); (· exact hB1); try (simp (maxSteps := 1000000) (disch := first | exact dq | fail) only [go_sem]))
  (repeat' (first | refine Nx.go ?_ | fail) <;> try (simp (maxSteps := 1000000) (disch := first | exact dq | fail) only [go_sem]))
  ((with_reducible first | apply left_callf | apply leftD_callf | apply leftF_callf); (· with_reducible rfl); (· (simp (maxSteps := 1000000) (disch := first | exact dq | fail) only [go_sem]) <;> rfl); (· exact hB2); try (simp (maxSteps := 1000000) (disch := first | exact dq | fail) only [go_sem]))
  (repeat' (with_reducible first | refine Nx.go ?_ | refine And.intro ?_ ?_ | fail) <;> try (simp (maxSteps := 1000000) (disch := first | exact dq | fail) only [go_sem, rowF_rep, hpl]))
  all_goals (try omega)
  refine aw_loop (α := Nat) (fun k => ⟨85, sl [(6, .iv (inl x)), (7, .iv (inl y)), (9, .iv (inl p)), (10, .msl 0 0 a.length a.length), (11, .iv (.int .i64 (c k))), (38, .iv (inl p)), (39, .iv (.int .i64 a.length)), (40, .iv (.int .i64 k))], [.row true 3 1 (rowF a.length (outR a b k))], 0⟩)
    (fun k => k ≤ a.length) (fun k => a.length - k) 0 (wk_by [1] ?_) (by omega) ?_
  · (simp (maxSteps := 1000000) (disch := first | exact dq | fail) only [go_sem, h0, c0])
  rintro k hk
  have hlr := rowF_len a.length (outR a b k)
  by_cases hlt : k < a.length
  · obtain ⟨v, hv, hv2, hv3⟩ := hwho k hlt
    have hs := hset2 k v hlt hv2 hv3
    have hg := rowF_get (outR a b k) hv2
    have hsv := hpS k v hv
    have hcb := cb k
    by_cases hk0 : k = 0
    · subst hk0
      rw [Nat.zero_add, c1] at hs
      (repeat' first
  | ((with_reducible first | refine Nx.go ?_ | refine rP ?_ | refine And.intro ?_ ?_ | fail) <;> try (simp (maxSteps := 1000000) (disch := first | exact dq | fail) only [go_sem, hv, hlr, hg, hs, c0]))
  | ((with_reducible refine Sp.go ?_ ?_) <;> intro h <;> (try (simp (maxSteps := 1000000) (disch := first | exact dq | fail) only [go_sem] at h)) <;> try (simp (maxSteps := 1000000) (disch := first | exact dq | fail) only [go_sem, h, hv, hlr, hg, hs, c0])) | fail)
      all_goals (try omega)
      refine ⟨1, by omega, wk_by [0] ?_, by omega⟩
      (simp (maxSteps := 1000000) (disch := first | exact dq | fail) only [go_sem, c1, hs])
    · have ck : ¬ ((k : Int) = 0) := by omega
      have ek : ((k : Int) - 1).toNat = k - 1 := by omega
      obtain ⟨w, hw, hw2, hw3⟩ := hwho (k - 1) (by omega)
      have hsw := hpS (k - 1) w hw
      have he := heq v w hv2 hw2
      have hx := hre v w hv2 hw2
      have hy := hre2 v w hv2 hw2
      by_cases hxe : x.getD v 0 = x.getD w 0
      · by_cases hye : y.getD v 0 = y.getD w 0
        · have hcs := csame k (by omega) (by rw [hsv, hsw]; exact he.2 ⟨hx.1 hxe, hy.1 hye⟩)
          rw [hcs] at hs
          (repeat' first
  | ((with_reducible first | refine Nx.go ?_ | refine rP ?_ | refine And.intro ?_ ?_ | fail) <;> try (simp (maxSteps := 1000000) (disch := first | exact dq | fail) only [go_sem, hv, hw, ck, ek, hlr, hg, hs, hxe, hye, decide_true, decide_false]))
  | ((with_reducible refine Sp.go ?_ ?_) <;> intro h <;> (try (simp (maxSteps := 1000000) (disch := first | exact dq | fail) only [go_sem] at h)) <;> try (simp (maxSteps := 1000000) (disch := first | exact dq | fail) only [go_sem, h, hv, hw, ck, ek, hlr, hg, hs, hxe, hye, decide_true, decide_false])) | fail)
          all_goals (try omega)
          refine ⟨k + 1, by omega, wk_by [0] ?_, by omega⟩
          (simp (maxSteps := 1000000) (disch := first | exact dq | fail) only [go_sem, hcs, hs])
        · have hcs := cnew k (by rw [hsv, hsw]; exact fun h => hye (hy.2 (he.1 h).2))
          rw [hcs] at hs
          (repeat' first
  | ((with_reducible first | refine Nx.go ?_ | refine rP ?_ | refine And.intro ?_ ?_ | fail) <;> try (simp (maxSteps := 1000000) (disch := first | exact dq | fail) only [go_sem, hv, hw, ck, ek, hlr, hg, hs, hxe, hye, decide_true, decide_false]))
  | ((with_reducible refine Sp.go ?_ ?_) <;> intro h <;> (try (simp (maxSteps := 1000000) (disch := first | exact dq | fail) only [go_sem] at h)) <;> try (simp (maxSteps := 1000000) (disch := first | exact dq | fail) only [go_sem, h, hv, hw, ck, ek, hlr, hg, hs, hxe, hye, decide_true, decide_false])) | fail)
          all_goals (try omega)
          refine ⟨k + 1, by omega, wk_by [0] ?_, by omega⟩
          (simp (maxSteps := 1000000) (disch := first | exact dq | fail) only [go_sem, hcs, hs])
      · have hcs := cnew k (by rw [hsv, hsw]; exact fun h => hxe (hx.2 (he.1 h).1))
        rw [hcs] at hs
        (repeat' first
  | ((with_reducible first | refine Nx.go ?_ | refine rP ?_ | refine And.intro ?_ ?_ | fail) <;> try (simp (maxSteps := 1000000) (disch := first | exact dq | fail) only [go_sem, hv, hw, ck, ek, hlr, hg, hs, hxe, decide_true, decide_false]))
  | ((with_reducible refine Sp.go ?_ ?_) <;> intro h <;> (try (simp (maxSteps := 1000000) (disch := first | exact dq | fail) only [go_sem] at h)) <;> try (simp (maxSteps := 1000000) (disch := first | exact dq | fail) only [go_sem, h, hv, hw, ck, ek, hlr, hg, hs, hxe, decide_true, decide_false])) | fail)
        all_goals (try omega)
        refine ⟨k + 1, by omega, wk_by [0] ?_, by omega⟩
        (simp (maxSteps := 1000000) (disch := first | exact dq | fail) only [go_sem, hcs, hs])
  · have : k = a.length := by omega
    subst this
    have htk : List.take a.length (rowF a.length (outR a b a.length)) = rowF a.length (outR a b a.length) := List.take_of_length_le (by omega)
    (repeat' first
  | ((with_reducible first | refine Nx.go ?_ | refine rP ?_ | refine And.intro ?_ ?_ | fail) <;> try (simp (maxSteps := 1000000) (disch := first | exact dq | fail) only [go_sem, hlr, htk]))
  | ((with_reducible refine Sp.go ?_ ?_) <;> intro h <;> (try (simp (maxSteps := 1000000) (disch := first | exact dq | fail) only [go_sem] at h)) <;> try (simp (maxSteps := 1000000) (disch := first | exact dq | fail) only [go_sem, h, hlr, htk])) | fail)
    all_goals (try omega)
    all_goals (rw [hend]; rfl)
end Go.Proofs.Ytnijpeeehnnipaa.AM

set_option linter.unusedVariables false
set_option linter.unusedSimpArgs false
set_option maxRecDepth 20000
namespace Go.Proofs.Ytnijpeeehnnipaa.AM
open Go Go.RowKit

end Go.Proofs.Ytnijpeeehnnipaa.AM

set_option linter.unusedVariables false
set_option linter.unusedSimpArgs false
set_option maxRecDepth 20000
namespace Go.Proofs.Ytnijpeeehnnipaa.AM
open Go Go.RowKit

structure Pm (p : List Int) (t : Nat) : Prop where
  rng : ∀ j, j < t → 0 ≤ p.getD j 0 ∧ p.getD j 0 < p.length
  dif : ∀ j k, j < k → k < t → p.getD j 0 ≠ p.getD k 0
end Go.Proofs.Ytnijpeeehnnipaa.AM
