
/- Chapter 6: places by keys: counting and laying. No condition. Chapter 6: Stable. No condition. Chapter 6: the document's Stable. No condition. Chapter 6: small parts of slices. No condition. Chapter 6: the document's Has and All; permutations. No condition. -/
import Derived.Test.YtnijpeeehnnipaaGG

set_option linter.unusedVariables false
set_option linter.unusedSimpArgs false
set_option maxRecDepth 20000
namespace Go.Proofs.Ytnijpeeehnnipaa.AM
open Go Go.RowKit

def rowF (n : Nat) (f : Nat → Int) : List IV := (List.range n).map fun m => .int .i64 (f m)
theorem rowF_len (n : Nat) (f : Nat → Int) : (rowF n f).length = n := by simp [rowF]
theorem rowF_get {n i : Nat} (f : Nat → Int) (h : i < n) : (rowF n f)[i]? = some (.int .i64 (f i)) := by simp [rowF, h]
theorem rowF_congr {n : Nat} {f g : Nat → Int} (h : ∀ m, m < n → f m = g m) : rowF n f = rowF n g := by
  unfold rowF
  exact List.map_congr_left (fun m hm => by rw [h m (List.mem_range.1 hm)])
theorem rowF_set {n i : Nat} (f : Nat → Int) (v : Int) : (rowF n f).set i (.int .i64 v) = rowF n (fun m => if m = i then v else f m) := by
  apply List.ext_getElem?
  intro m
  rw [List.getElem?_set]
  by_cases hm : m < n
  · rw [rowF_get _ hm, rowF_get _ hm, rowF_len]
    by_cases e : i = m
    · subst e; simp [hm]
    · rw [if_neg e, if_neg (fun h => e h.symm)]
  · rw [List.getElem?_eq_none (by rw [rowF_len]; omega), List.getElem?_eq_none (by rw [rowF_len]; omega), rowF_len]
    by_cases e : i = m
    · rw [if_pos e, if_neg (by omega)]
    · rw [if_neg e]
@[go_sem] theorem rowF_cons (n : Nat) : (IV.int .i64 0 :: rowF n fun _ => 0) = rowF (n + 1) fun _ => 0 := by
  unfold rowF; rw [List.range_succ_eq_map, List.map_cons, List.map_map]; rfl
theorem rowF_rep (n : Nat) : List.replicate n (IV.int .i64 0) = rowF n (fun _ => 0) := by
  apply List.ext_getElem (by simp [rowF_len])
  intro i h1 h2
  simp [rowF]

def cN (K : Nat → Nat) (k : Nat) : Nat → Nat
  | 0 => 0
  | t + 1 => cN K k t + (if K t = k then 1 else 0)
def cL (K : Nat → Nat) (k : Nat) : Nat → Nat
  | 0 => 0
  | t + 1 => cL K k t + (if K t < k then 1 else 0)
theorem cN_le (K : Nat → Nat) (k : Nat) : ∀ t, cN K k t ≤ t
  | 0 => Nat.le_refl _
  | t + 1 => by have := cN_le K k t; simp only [cN]; split <;> omega
theorem cL_le (K : Nat → Nat) (k : Nat) : ∀ t, cL K k t ≤ t
  | 0 => Nat.le_refl _
  | t + 1 => by have := cL_le K k t; simp only [cL]; split <;> omega
theorem cL_next (K : Nat → Nat) (k : Nat) : ∀ t, cL K (k + 1) t = cL K k t + cN K k t
  | 0 => rfl
  | t + 1 => by
    have := cL_next K k t
    simp only [cL, cN]
    by_cases h : K t < k
    · rw [if_pos h, if_pos (by omega), if_neg (by omega)]; omega
    · by_cases h2 : K t = k
      · rw [if_neg h, if_pos (by omega), if_pos h2]; omega
      · rw [if_neg h, if_neg (by omega), if_neg h2]; omega
theorem cL_zero (K : Nat → Nat) : ∀ t, cL K 0 t = 0
  | 0 => rfl
  | t + 1 => by simp only [cL, cL_zero K t]; rw [if_neg (by omega)]
theorem cN_mono (K : Nat → Nat) (k : Nat) {a b : Nat} (h : a ≤ b) : cN K k a ≤ cN K k b := by
  induction b with
  | zero => rw [show a = 0 by omega]; exact Nat.le_refl _
  | succ b ih =>
    rcases Nat.lt_or_ge a (b + 1) with h1 | h1
    · have := ih (by omega); simp only [cN]; omega
    · rw [show a = b + 1 by omega]; exact Nat.le_refl _
def posK (K : Nat → Nat) (n t : Nat) : Nat := cL K (K t) n + cN K (K t) t
theorem posK_lt (K : Nat → Nat) {n t : Nat} (h : t < n) : posK K n t < n := by
  have h1 := cN_mono K (K t) (show t + 1 ≤ n by omega)
  have h2 := cL_next K (K t) n
  have h3 := cL_le K (K t + 1) n
  simp only [cN, if_true] at h1
  unfold posK; omega

theorem all_spec (n : Nat) (hn : n ≤ 100000000) : PCalls Try.prog 47 [.int .i64 n] (.sl 1 (rowF n (fun m => m))) := by
  refine PCalls.of_aw Try.func47 rfl (by unfold Callable; kernel_rfl) (by kernel_rfl) (by simp [Try.ntmps47]) ?_; rw [Try.ntmps47, Try.results47]; (simp (disch := first | exact dq | fail) only [go_sem])
  (repeat' (with_reducible first | refine Nx.go ?_ | refine And.intro ?_ ?_ | fail) <;> try (simp (disch := first | exact dq | fail) only [go_sem]))
  all_goals (try omega)
  refine aw_loop (α := Nat) (fun i => ⟨18, sl [(3, .msl 0 0 n n), (7, .msl 0 0 n n), (8, .iv (.int .i64 n)), (9, .iv (.int .i64 i))], [.row true 3 1 (rowF n (fun m => if m < i then m else 0))], 0⟩)
    (fun i => i ≤ n) (fun i => n - i) 0 (wk_by [1] ?_) (by omega) ?_
  · (simp (disch := first | exact dq | fail) only [go_sem, rowF_rep])
    first | rfl | (congr 2) | skip
  rintro i hi
  by_cases h : i < n
  · have hg := rowF_get (fun m => if m < i then (m : Int) else 0) h
    have hs : (rowF n (fun m => if m < i then (m : Int) else 0)).set i (.int .i64 i) = rowF n (fun m => if m < i + 1 then (m : Int) else 0) := by
      rw [rowF_set]
      refine rowF_congr (fun m hm => ?_)
      by_cases e : m = i
      · subst e; rw [if_pos rfl, if_pos (by omega)]
      · rw [if_neg e]
        by_cases h2 : m < i
        · rw [if_pos h2, if_pos (by omega)]
        · rw [if_neg h2, if_neg (by omega)]
    have hl := rowF_len n (fun m => if m < i then (m : Int) else 0)
    (repeat' first
  | ((with_reducible first | refine Nx.go ?_ | refine And.intro ?_ ?_ | fail) <;> try (simp (disch := first | exact dq | fail) only [go_sem, hg, hs, hl]))
  | ((with_reducible refine Sp.go ?_ ?_) <;> intro h <;> (try (simp (disch := first | exact dq | fail) only [go_sem] at h)) <;> try (simp (disch := first | exact dq | fail) only [go_sem, h, hg, hs, hl])) | fail)
    all_goals (try omega)
    refine ⟨i + 1, by omega, wk_by [0] ?_, by omega⟩
    (simp (disch := first | exact dq | fail) only [go_sem])
  · have e : rowF n (fun m => if m < i then (m : Int) else 0) = rowF n (fun m => m) := rowF_congr (fun m hm => by rw [if_pos (by omega)])
    have hl := rowF_len n (fun m => (m : Int))
    rw [e]
    (repeat' first
  | ((first | refine Nx.go ?_ | fail) <;> try (simp (disch := first | exact dq | fail) only [go_sem, hl]))
  | ((with_reducible refine Sp.go ?_ ?_) <;> intro h <;> (try (simp (disch := first | exact dq | fail) only [go_sem] at h)) <;> try (simp (disch := first | exact dq | fail) only [go_sem, h, hl])) | fail)
    all_goals (try omega)
    all_goals rw [List.take_of_length_le (by rw [hl]; exact Nat.le_refl n)]

theorem count_spec (sz : Nat) (f : Nat → Int) (k : Nat) (p : Int) (hsz : sz ≤ 2000000) (hk : k + 1 < sz) (hf : ∀ m, m < sz → 0 ≤ f m ∧ f m ≤ 1000000000) :
    MCalls Try.prog 64 [.iv (.int .i64 k), .iv (.int .i64 p), .mp 0 0] [.var 28 [.msl 1 0 sz sz], .row true 3 1 (rowF sz f)] (.tup [])
      [.var 28 [.msl 1 0 sz sz], .row true 3 1 (rowF sz fun m => if m = k + 1 then f (k + 1) + 1 else f m)] := by
  have hg := rowF_get f hk
  have hb := hf (k + 1) hk
  have hl := rowF_len sz f
  have hs := rowF_set (n := sz) (i := k + 1) f (f (k + 1) + 1)
  have hn : ((k : Int) + 1).toNat = k + 1 := by omega
  refine MCalls.of_aw Try.func64 rfl (by unfold Callable; kernel_rfl) (by kernel_rfl) (by simp [Try.ntmps64]) (by (simp (disch := first | exact dq | fail) only [go_sem])) ?_; rw [Try.ntmps64, Try.results64]; (simp (disch := first | exact dq | fail) only [go_sem])
  (repeat' (with_reducible first | refine Nx.go ?_ | refine And.intro ?_ ?_ | fail) <;> try (simp (disch := first | exact dq | fail) only [go_sem, hl, hg, hs, hn]))
  all_goals (try omega)
  all_goals (refine fin_k [0, 1] ?_; (simp (disch := first | exact dq | fail) only [go_sem]))

theorem lay_spec (n sz : Nat) (g f : Nat → Int) (k a : Nat) (p : Int) (hsz : sz ≤ 2000000) (hk : k < sz) (hfa : f k = a) (ha : a < n) (hn : n ≤ 100000000) :
    MCalls Try.prog 65 [.iv (.int .i64 k), .iv (.int .i64 p), .mp 0 0, .mp 1 0] [.var 28 [.msl 2 0 n n], .var 28 [.msl 3 0 sz sz], .row true 3 1 (rowF n g), .row true 3 1 (rowF sz f)] (.tup [])
      [.var 28 [.msl 2 0 n n], .var 28 [.msl 3 0 sz sz], .row true 3 1 (rowF n fun m => if m = a then p else g m), .row true 3 1 (rowF sz fun m => if m = k then f k + 1 else f m)] := by
  have hg := rowF_get f hk
  rw [hfa] at hg
  have hga := rowF_get g ha
  have hl := rowF_len sz f
  have hl2 := rowF_len n g
  have hs := rowF_set (n := sz) (i := k) f (f k + 1)
  rw [hfa] at hs
  have hs2 := rowF_set (n := n) (i := a) g p
  rw [hfa]
  refine MCalls.of_aw Try.func65 rfl (by unfold Callable; kernel_rfl) (by kernel_rfl) (by simp [Try.ntmps65]) (by (simp (disch := first | exact dq | fail) only [go_sem])) ?_; rw [Try.ntmps65, Try.results65]; (simp (disch := first | exact dq | fail) only [go_sem])
  (repeat' (with_reducible first | refine Nx.go ?_ | refine rP ?_ | refine And.intro ?_ ?_ | fail) <;> try (simp (disch := first | exact dq | fail) only [go_sem, hl, hl2, hg, hga, hs, hs2]))
  all_goals (try omega)
  all_goals (refine fin_k [0, 1, 2, 3] ?_; (simp (disch := first | exact dq | fail) only [go_sem]))

structure Plc (pl keys : List Int) (sz : Nat) (K : Nat → Nat) : Prop where
  at_ : ∀ t, t < pl.length → ∃ q : Nat, pl.getD t 0 = (q : Int) ∧ q < keys.length ∧ keys.getD q 0 = (K t : Int) ∧ K t + 1 < sz
  szl : sz ≤ 2000000
  pll : pl.length ≤ 1000000

theorem each2_spec (pl keys : List Int) (sz : Nat) (K : Nat → Nat) (hP : Plc pl keys sz K) :
    MCalls Try.prog 63 [.fn 64 [.mp 2 0], .mp 0 0, .mp 1 0] [.var 28 [.iv (inl pl)], .var 28 [.iv (inl keys)], .var 28 [.msl 3 0 sz sz], .row true 3 1 (rowF sz fun _ => 0)] (.tup [])
      [.var 28 [.iv (inl pl)], .var 28 [.iv (inl keys)], .var 28 [.msl 3 0 sz sz], .row true 3 1 (rowF sz fun m => if m = 0 then 0 else (cN K (m - 1) pl.length : Nat))] := by
  refine MCalls.of_aw Try.func63 rfl (by unfold Callable; kernel_rfl) (by kernel_rfl) (by simp [Try.ntmps63]) (by (simp (disch := first | exact dq | fail) only [go_sem])) ?_; rw [Try.ntmps63, Try.results63]; (simp (disch := first | exact dq | fail) only [go_sem])
  (repeat' (first | refine Nx.go ?_ | fail) <;> try (simp (disch := first | exact dq | fail) only [go_sem]))
  refine aw_loop (α := Nat) (fun t => ⟨20, sl [(0, .fn 64 [.mp 2 0]), (1, .mp 0 0), (2, .mp 1 0), (6, .iv (inl pl)), (7, .iv (.int .i64 pl.length)), (8, .iv (.int .i64 t))],
    [.var 28 [.iv (inl pl)], .var 28 [.iv (inl keys)], .var 28 [.msl 3 0 sz sz], .row true 3 1 (rowF sz fun m => if m = 0 then 0 else (cN K (m - 1) t : Nat))], 4⟩)
    (fun t => t ≤ pl.length) (fun t => pl.length - t) 0 (wk_by [0, 1, 2, 3] ?_) (by omega) ?_
  · have e : rowF sz (fun m => if m = 0 then (0 : Int) else (cN K (m - 1) 0 : Nat)) = rowF sz fun _ => 0 := rowF_congr (fun m _ => by split <;> rfl)
    rw [e]
    (simp (disch := first | exact dq | fail) only [go_sem])
  rintro t ht
  have hpl := hP.pll
  by_cases hlt : t < pl.length
  · obtain ⟨q, hq, hqk, hkq, hkz⟩ := hP.at_ t hlt
    have hC := count_spec sz (fun m => if m = 0 then (0 : Int) else (cN K (m - 1) t : Nat)) (K t) (q : Int) hP.szl hkz (fun m _ => by
      have := cN_le K (m - 1) t
      by_cases e : m = 0
      · rw [if_pos e]; omega
      · rw [if_neg e]; omega)
    have e : rowF sz (fun m => if m = K t + 1 then (if K t + 1 = 0 then (0 : Int) else (cN K (K t + 1 - 1) t : Nat)) + 1 else if m = 0 then (0 : Int) else (cN K (m - 1) t : Nat)) = rowF sz fun m => if m = 0 then (0 : Int) else (cN K (m - 1) (t + 1) : Nat) := by
      refine rowF_congr (fun m _ => ?_)
      by_cases e1 : m = K t + 1
      · subst e1; rw [if_pos rfl, if_neg (by omega), if_neg (by omega)]; simp only [cN]; rw [Nat.add_sub_cancel, if_pos rfl]; omega
      · rw [if_neg e1]
        by_cases e2 : m = 0
        · rw [if_pos e2, if_pos e2]
        · rw [if_neg e2, if_neg e2]; simp only [cN]; rw [if_neg (by omega)]; omega
    rw [e] at hC
    (repeat' first
  | ((with_reducible first | refine Nx.go ?_ | refine And.intro ?_ ?_ | fail) <;> try (simp (disch := first | exact dq | fail) only [go_sem, hq, hkq]))
  | ((with_reducible refine Sp.go ?_ ?_) <;> intro h <;> (try (simp (disch := first | exact dq | fail) only [go_sem] at h)) <;> try (simp (disch := first | exact dq | fail) only [go_sem, h, hq, hkq])) | fail)
    all_goals (try omega)
    ((first | with_reducible refine left_callMs [2, 3] (hC) ?_ ?_ | with_reducible refine leftD_callMs [2, 3] rfl (hC) ?_ ?_ | with_reducible refine leftD_callRs [2, 3] (by decide) (hC) ?_ ?_); (· (simp (disch := first | exact dq | fail) only [go_sem])); try (simp (disch := first | exact dq | fail) only [go_sem]))
    (repeat' (first | refine Nx.go ?_ | fail) <;> try (simp (disch := first | exact dq | fail) only [go_sem]))
    all_goals (try omega)
    refine ⟨t + 1, by omega, wk_by [0, 1, 2, 3] ?_, by omega⟩
    (simp (disch := first | exact dq | fail) only [go_sem])
  · have e : t = pl.length := by omega
    subst e
    (repeat' first
  | ((with_reducible first | refine Nx.go ?_ | refine And.intro ?_ ?_ | fail) <;> try (simp (disch := first | exact dq | fail) only [go_sem]))
  | ((with_reducible refine Sp.go ?_ ?_) <;> intro h <;> (try (simp (disch := first | exact dq | fail) only [go_sem] at h)) <;> try (simp (disch := first | exact dq | fail) only [go_sem, h])) | fail)
    all_goals (try omega)
    refine fin_k [0, 1, 2, 3] ?_
    (simp (disch := first | exact dq | fail) only [go_sem])

def outF (K : Nat → Nat) (pl : List Int) : Nat → Nat → Int
  | 0 => fun _ => 0
  | t + 1 => fun m => if m = posK K pl.length t then pl.getD t 0 else outF K pl t m
@[go_sem] theorem outF_zero (K : Nat → Nat) (pl : List Int) : outF K pl 0 = fun _ => 0 := rfl
def begF (K : Nat → Nat) (n t : Nat) : Nat → Int := fun m => ((cL K m n + cN K m t : Nat) : Int)
theorem each3_spec (pl keys : List Int) (sz : Nat) (K : Nat → Nat) (hP : Plc pl keys sz K) :
    MCalls Try.prog 63 [.fn 65 [.mp 4 0, .mp 2 0], .mp 0 0, .mp 1 0] [.var 28 [.iv (inl pl)], .var 28 [.iv (inl keys)], .var 28 [.msl 3 0 sz sz], .row true 3 1 (rowF sz (begF K pl.length 0)), .var 28 [.msl 5 0 pl.length pl.length], .row true 3 1 (rowF pl.length (outF K pl 0))] (.tup [])
      [.var 28 [.iv (inl pl)], .var 28 [.iv (inl keys)], .var 28 [.msl 3 0 sz sz], .row true 3 1 (rowF sz (begF K pl.length pl.length)), .var 28 [.msl 5 0 pl.length pl.length], .row true 3 1 (rowF pl.length (outF K pl pl.length))] := by
  refine MCalls.of_aw Try.func63 rfl (by unfold Callable; kernel_rfl) (by kernel_rfl) (by simp [Try.ntmps63]) (by (simp (disch := first | exact dq | fail) only [go_sem])) ?_; rw [Try.ntmps63, Try.results63]; (simp (disch := first | exact dq | fail) only [go_sem])
  (repeat' (first | refine Nx.go ?_ | fail) <;> try (simp (disch := first | exact dq | fail) only [go_sem]))
  refine aw_loop (α := Nat) (fun t => ⟨20, sl [(0, .fn 65 [.mp 4 0, .mp 2 0]), (1, .mp 0 0), (2, .mp 1 0), (6, .iv (inl pl)), (7, .iv (.int .i64 pl.length)), (8, .iv (.int .i64 t))],
    [.var 28 [.iv (inl pl)], .var 28 [.iv (inl keys)], .var 28 [.msl 3 0 sz sz], .row true 3 1 (rowF sz (begF K pl.length t)), .var 28 [.msl 5 0 pl.length pl.length], .row true 3 1 (rowF pl.length (outF K pl t))], 6⟩)
    (fun t => t ≤ pl.length) (fun t => pl.length - t) 0 (wk_by [0, 1, 2, 3, 4, 5] ?_) (by omega) ?_
  · (simp (disch := first | exact dq | fail) only [go_sem])
    all_goals (try rfl)
  rintro t ht
  have hpl := hP.pll
  by_cases hlt : t < pl.length
  · obtain ⟨q, hq, hqk, hkq, hkz⟩ := hP.at_ t hlt
    have hC := lay_spec pl.length sz (outF K pl t) (begF K pl.length t) (K t) (posK K pl.length t) (q : Int) hP.szl (by omega) rfl (posK_lt K hlt) (by omega)
    have e1 : rowF pl.length (fun m => if m = posK K pl.length t then (q : Int) else outF K pl t m) = rowF pl.length (outF K pl (t + 1)) := by
      simp only [outF, hq]
    have e2 : rowF sz (fun m => if m = K t then begF K pl.length t (K t) + 1 else begF K pl.length t m) = rowF sz (begF K pl.length (t + 1)) := by
      refine rowF_congr (fun m _ => ?_)
      unfold begF
      simp only [cN]
      by_cases e : m = K t
      · subst e; rw [if_pos rfl, if_pos rfl]; omega
      · rw [if_neg e, if_neg (fun h => e h.symm)]; omega
    rw [e1, e2] at hC
    (repeat' first
  | ((with_reducible first | refine Nx.go ?_ | refine And.intro ?_ ?_ | fail) <;> try (simp (disch := first | exact dq | fail) only [go_sem, hq, hkq]))
  | ((with_reducible refine Sp.go ?_ ?_) <;> intro h <;> (try (simp (disch := first | exact dq | fail) only [go_sem] at h)) <;> try (simp (disch := first | exact dq | fail) only [go_sem, h, hq, hkq])) | fail)
    all_goals (try omega)
    ((first | with_reducible refine left_callMs [4, 2, 5, 3] (hC) ?_ ?_ | with_reducible refine leftD_callMs [4, 2, 5, 3] rfl (hC) ?_ ?_ | with_reducible refine leftD_callRs [4, 2, 5, 3] (by decide) (hC) ?_ ?_); (· (simp (disch := first | exact dq | fail) only [go_sem])); try (simp (disch := first | exact dq | fail) only [go_sem]))
    (repeat' (first | refine Nx.go ?_ | fail) <;> try (simp (disch := first | exact dq | fail) only [go_sem]))
    all_goals (try omega)
    refine ⟨t + 1, by omega, wk_by [0, 1, 2, 3, 4, 5] ?_, by omega⟩
    (simp (disch := first | exact dq | fail) only [go_sem])
    all_goals (try rfl)
  · have e : t = pl.length := by omega
    subst e
    (repeat' first
  | ((with_reducible first | refine Nx.go ?_ | refine And.intro ?_ ?_ | fail) <;> try (simp (disch := first | exact dq | fail) only [go_sem]))
  | ((with_reducible refine Sp.go ?_ ?_) <;> intro h <;> (try (simp (disch := first | exact dq | fail) only [go_sem] at h)) <;> try (simp (disch := first | exact dq | fail) only [go_sem, h])) | fail)
    all_goals (try omega)
    refine fin_k [0, 1, 2, 3, 4, 5] ?_
    (simp (disch := first | exact dq | fail) only [go_sem])
    all_goals (try rfl)

def preF (K : Nat → Nat) (n k : Nat) : Nat → Int := fun m => if m ≤ k then (cL K m n : Nat) else (cN K (m - 1) n : Nat)
theorem buckets_spec (pl keys : List Int) (size : Nat) (K : Nat → Nat) (hP : Plc pl keys (size + 1) K) :
    PCalls Try.prog 46 [inl pl, inl keys, .int .i64 size] (.sl 1 (rowF pl.length (outF K pl pl.length))) := by
  have hsz := hP.szl
  have hpl := hP.pll
  obtain ⟨z, hzn⟩ : ∃ z : Nat, z = size + 1 := ⟨_, rfl⟩
  have hz : (size : Int) + 1 = (z : Int) := by omega
  rw [← hzn] at hP hsz
  refine PCalls.of_aw Try.func46 rfl (by unfold Callable; kernel_rfl) (by kernel_rfl) (by simp [Try.ntmps46]) ?_; rw [Try.ntmps46, Try.results46]; (simp (disch := first | exact dq | fail) only [go_sem])
  (repeat' (with_reducible first | refine Nx.go ?_ | refine And.intro ?_ ?_ | fail) <;> try (simp (disch := first | exact dq | fail) only [go_sem, rowF_rep, hz]))
  all_goals (try omega)
  ((first | with_reducible refine left_callMs [0, 1, 4, 3] (each2_spec pl keys z K hP) ?_ ?_ | with_reducible refine leftD_callMs [0, 1, 4, 3] rfl (each2_spec pl keys z K hP) ?_ ?_ | with_reducible refine leftD_callRs [0, 1, 4, 3] (by decide) (each2_spec pl keys z K hP) ?_ ?_); (· (simp (disch := first | exact dq | fail) only [go_sem])); try (simp (disch := first | exact dq | fail) only [go_sem]))
  (repeat' (first | refine Nx.go ?_ | fail) <;> try (simp (disch := first | exact dq | fail) only [go_sem]))
  refine aw_loop (α := Nat) (fun k => ⟨41, sl [(3, .mp 0 0), (7, .mp 2 0), (8, .fn 63 [.mp 0 0, .mp 1 0]), (18, .iv (.int .i64 size)), (19, .iv (.int .i64 k))],
    [.var 28 [.iv (inl pl)], .var 28 [.iv (inl keys)], .var 28 [.msl 3 0 z z], .row true 3 1 (rowF z (preF K pl.length k))], 0⟩)
    (fun k => k ≤ size) (fun k => size - k) 0 (wk_by [0, 1, 4, 3] ?_) (by omega) ?_
  · have e : rowF z (preF K pl.length 0) = rowF z fun m => if m = 0 then (0 : Int) else (cN K (m - 1) pl.length : Nat) := by
      refine rowF_congr (fun m _ => ?_)
      unfold preF
      by_cases e : m = 0
      · subst e; rw [if_pos (Nat.le_refl _), if_pos rfl, cL_zero]; rfl
      · rw [if_neg (by omega), if_neg e]
    rw [e]
    (simp (disch := first | exact dq | fail) only [go_sem])
    all_goals (try rfl)
  rintro k hk
  have hl := rowF_len z (preF K pl.length k)
  by_cases hlt : k < size
  · have g1 := rowF_get (preF K pl.length k) (show k < z by omega)
    have g2 := rowF_get (preF K pl.length k) (show k + 1 < z by omega)
    have v1 : preF K pl.length k k = (cL K k pl.length : Nat) := by unfold preF; rw [if_pos (Nat.le_refl _)]
    have v2 : preF K pl.length k (k + 1) = (cN K k pl.length : Nat) := by unfold preF; rw [if_neg (by omega)]; rfl
    rw [v1] at g1
    rw [v2] at g2
    have b1 := cL_le K k pl.length
    have b2 := cN_le K k pl.length
    have b3 := cL_next K k pl.length
    have hs : (rowF z (preF K pl.length k)).set (k + 1) (.int .i64 ((cN K k pl.length : Nat) + (cL K k pl.length : Nat))) = rowF z (preF K pl.length (k + 1)) := by
      rw [rowF_set]
      refine rowF_congr (fun m _ => ?_)
      unfold preF
      by_cases e : m = k + 1
      · subst e; rw [if_pos rfl, if_pos (Nat.le_refl _)]; omega
      · rw [if_neg e]
        by_cases e2 : m ≤ k
        · rw [if_pos e2, if_pos (by omega)]
        · rw [if_neg e2, if_neg (by omega)]
    have hk1 : ((k : Int) + 1).toNat = k + 1 := by omega
    (repeat' first
  | ((with_reducible first | refine Nx.go ?_ | refine rP ?_ | refine And.intro ?_ ?_ | fail) <;> try (simp (disch := first | exact dq | fail) only [go_sem, hl, g1, g2, hs, hk1]))
  | ((with_reducible refine Sp.go ?_ ?_) <;> intro h <;> (try (simp (disch := first | exact dq | fail) only [go_sem] at h)) <;> try (simp (disch := first | exact dq | fail) only [go_sem, h, hl, g1, g2, hs, hk1])) | fail)
    all_goals (try omega)
    refine ⟨k + 1, by omega, wk_by [0, 1, 2, 3] ?_, by omega⟩
    (simp (disch := first | exact dq | fail) only [go_sem])
  · have e : k = size := by omega
    subst e
    have ef : rowF z (preF K pl.length k) = rowF z (begF K pl.length 0) := by
      refine rowF_congr (fun m hm => ?_)
      unfold preF begF
      rw [if_pos (by omega)]; rfl
    rw [ef]
    have hl3 := rowF_len pl.length (outF K pl pl.length)
    (repeat' first
  | ((with_reducible first | refine Nx.go ?_ | refine rP ?_ | refine And.intro ?_ ?_ | fail) <;> try (simp (disch := first | exact dq | fail) only [go_sem, rowF_rep]))
  | ((with_reducible refine Sp.go ?_ ?_) <;> intro h <;> (try (simp (disch := first | exact dq | fail) only [go_sem] at h)) <;> try (simp (disch := first | exact dq | fail) only [go_sem, h, rowF_rep])) | fail)
    all_goals (try omega)
    ((first | with_reducible refine left_callMs [0, 1, 2, 3, 5, 4] (each3_spec pl keys z K hP) ?_ ?_ | with_reducible refine leftD_callMs [0, 1, 2, 3, 5, 4] rfl (each3_spec pl keys z K hP) ?_ ?_ | with_reducible refine leftD_callRs [0, 1, 2, 3, 5, 4] (by decide) (each3_spec pl keys z K hP) ?_ ?_); (· (simp (disch := first | exact dq | fail) only [go_sem])); try (simp (disch := first | exact dq | fail) only [go_sem]))
    (repeat' (first | refine Nx.go ?_ | fail) <;> try (simp (disch := first | exact dq | fail) only [go_sem, hl3]))
    all_goals rw [List.take_of_length_le (by rw [hl3]; exact Nat.le_refl _)]
end Go.Proofs.Ytnijpeeehnnipaa.AM

set_option linter.unusedVariables false
set_option linter.unusedSimpArgs false
set_option maxRecDepth 20000
namespace Go.Proofs.Ytnijpeeehnnipaa.AM
open Go Go.RowKit

theorem rowF_inl (n : Nat) (f : Nat → Int) : IV.sl 1 (rowF n f) = inl ((List.range n).map f) := by
  unfold rowF inl; rw [List.map_map]; rfl
def offK (sz k : Int) : Bool := decide (k < 0) || decide (sz ≤ k)
theorem wrong_spec (sz k : Int) : MCalls Try.prog 44 [.iv (.int .i64 k), .mp 0 0] [.var 3 [.iv (.int .i64 sz)]] (.iv (.bool (offK sz k))) [.var 3 [.iv (.int .i64 sz)]] := by
  unfold offK
  refine MCalls.of_aw Try.func44 rfl (by unfold Callable; kernel_rfl) (by kernel_rfl) (by simp [Try.ntmps44]) (by (simp (disch := first | exact dq | fail) only [go_sem])) ?_; rw [Try.ntmps44, Try.results44]; (simp (disch := first | exact dq | fail) only [go_sem])
  (repeat' first
  | ((first | refine Nx.go ?_ | fail) <;> try (simp (disch := first | exact dq | fail) only [go_sem]))
  | ((with_reducible refine Sp.go ?_ ?_) <;> intro h <;> (try (simp (disch := first | exact dq | fail) only [go_sem] at h)) <;> try (simp (disch := first | exact dq | fail) only [go_sem, h])) | fail)
  · refine fin_k [0] ?_
    (simp (disch := first | exact dq | fail) only [go_sem])
    rw [decide_eq_false (show ¬ k < 0 by omega)]; rfl
  · refine fin_k [0] ?_
    (simp (disch := first | exact dq | fail) only [go_sem])
    rw [decide_eq_true (show k < 0 by omega)]; rfl
def keyN (keys : List Int) (t : Nat) : Nat := (keys.getD t 0).toNat
def idL (n : Nat) : List Int := (List.range n).map fun (m : Nat) => (m : Int)
def stabG (K : Nat → Nat) (n : Nat) : List Int := (List.range n).map (outF K (idL n) n)
def stabL (keys : List Int) : List Int := stabG (keyN keys) keys.length
def stabOk (keys : List Int) (sz : Int) : Bool := decide (1 ≤ sz ∧ sz ≤ 1048576) && !(keys.any (offK sz))
theorem Stable_ok (keys : List Int) (sz : Int) (hl : keys.length ≤ 1000000) (hs : ∀ n ∈ keys, small n) (h : stabOk keys sz = true) :
    PCalls Try.prog 35 [inl keys, .int .i64 sz] (.tup [inl (stabL keys), .int .i64 0]) := by
  unfold stabOk at h
  rw [Bool.and_eq_true, decide_eq_true_eq, Bool.not_eq_true'] at h
  obtain ⟨⟨h1, h2⟩, h3⟩ := h
  obtain ⟨z, rfl⟩ : ∃ z : Nat, sz = z := ⟨sz.toNat, by omega⟩
  have hin : ∀ t, t < keys.length → 0 ≤ keys.getD t 0 ∧ keys.getD t 0 < z := by
    intro t ht
    have e : keys.getD t 0 = keys[t] := by simp [List.getD, List.getElem?_eq_getElem ht]
    have := List.any_eq_false.1 h3 _ (List.getElem_mem ht)
    rw [← e] at this
    unfold offK at this
    rw [Bool.or_eq_true, decide_eq_true_eq, decide_eq_true_eq, not_or] at this
    omega
  have hpl : (idL keys.length).length = keys.length := by simp [idL]
  have hP : Plc (idL keys.length) keys (z + 1) (keyN keys) := by
    refine ⟨fun t ht => ?_, by omega, by omega⟩
    rw [hpl] at ht
    have hi := hin t ht
    refine ⟨t, by simp [idL, List.getD, ht], ht, by unfold keyN; omega, by unfold keyN; omega⟩
  have hB := buckets_spec _ keys z (keyN keys) hP
  rw [hpl, rowF_inl] at hB
  have hA := all_spec keys.length (by omega)
  rw [rowF_inl] at hA
  change PCalls _ _ _ (inl (idL keys.length)) at hA
  refine PCalls.of_aw Try.func35 rfl (by unfold Callable; kernel_rfl) (by kernel_rfl) (by simp [Try.ntmps35]) ?_; rw [Try.ntmps35, Try.results35]; (simp (disch := first | exact dq | fail) only [go_sem])
  (repeat' first
  | ((first | refine Nx.go ?_ | fail) <;> try (simp (disch := first | exact dq | fail) only [go_sem]))
  | ((with_reducible refine Sp.go ?_ ?_) <;> intro h <;> (try (simp (disch := first | exact dq | fail) only [go_sem] at h)) <;> try (simp (disch := first | exact dq | fail) only [go_sem, h])) | fail)
  all_goals (try omega)
  have hC := ContainsFunc_spec 44 3 (.int .i64 z) (offK z) (fun n _ => wrong_spec z n) keys (by omega) hs
  rw [h3] at hC
  ((first | with_reducible refine left_callMs [0] (hC) ?_ ?_ | with_reducible refine leftD_callMs [0] rfl (hC) ?_ ?_ | with_reducible refine leftD_callRs [0] (by decide) (hC) ?_ ?_); (· (simp (disch := first | exact dq | fail) only [go_sem])); try (simp (disch := first | exact dq | fail) only [go_sem]))
  (repeat' (with_reducible first | refine Nx.go ?_ | refine rP ?_ | fail) <;> try (simp (disch := first | exact dq | fail) only [go_sem]))
  ((with_reducible first | apply left_callf | apply leftD_callf | apply leftF_callf); (· with_reducible rfl); (· (simp (disch := first | exact dq | fail) only [go_sem]) <;> rfl); (· exact hA); try (simp (disch := first | exact dq | fail) only [go_sem]))
  (repeat' (first | refine Nx.go ?_ | fail) <;> try (simp (disch := first | exact dq | fail) only [go_sem]))
  ((with_reducible first | apply left_callf | apply leftD_callf | apply leftF_callf); (· with_reducible rfl); (· (simp (disch := first | exact dq | fail) only [go_sem]) <;> rfl); (· exact hB); try (simp (disch := first | exact dq | fail) only [go_sem]))
  (repeat' (first | refine Nx.go ?_ | fail) <;> try (simp (disch := first | exact dq | fail) only [go_sem]))
  rfl

/-! ### the document's list -/
structure Laid (K : Nat → Nat) (n : Nat) (D : List Int) : Prop where
  len : D.length = n
  at_ : ∀ p, p < n → ∃ q : Nat, D.getD p 0 = (q : Int) ∧ q < n ∧ posK K n q = p
theorem outF_at (K : Nat → Nat) (pl : List Int) (q : Nat) (hinj : ∀ t, t < pl.length → q < t → posK K pl.length t ≠ posK K pl.length q) : ∀ t, q < t → t ≤ pl.length → outF K pl t (posK K pl.length q) = pl.getD q 0
  | 0, h, _ => by omega
  | t + 1, h, hle => by
    simp only [outF]
    by_cases e : t = q
    · subst e; rw [if_pos rfl]
    · rw [if_neg (fun h2 => hinj t (by omega) (by omega) h2.symm)]
      exact outF_at K pl q hinj t (by omega) (by omega)
theorem cL_mono (K : Nat → Nat) (n : Nat) {a b : Nat} (h : a ≤ b) : cL K a n ≤ cL K b n := by
  obtain ⟨d, rfl⟩ := Nat.exists_eq_add_of_le h
  clear h
  induction d with
  | zero => exact Nat.le_refl _
  | succ d ih => have := cL_next K (a + d) n; rw [← Nat.add_assoc]; omega
theorem posK_inj (K : Nat → Nat) (n : Nat) {a b : Nat} (h : a < b) (hb : b < n) : posK K n a ≠ posK K n b := by
  unfold posK
  have h1 := cN_mono K (K a) (show a + 1 ≤ b by omega)
  simp only [cN, if_true] at h1
  by_cases e : K a = K b
  · rw [e] at h1 ⊢; omega
  · rcases Nat.lt_or_ge (K a) (K b) with hl | hl
    · have h2 := cL_next K (K a) n
      have h3 := cN_mono K (K a) (show a + 1 ≤ n by omega)
      simp only [cN, if_true] at h3
      have h4 := cL_mono K n (show K a + 1 ≤ K b by omega)
      omega
    · have h2 := cL_next K (K b) n
      have h3 := cN_mono K (K b) (show b + 1 ≤ n by omega)
      simp only [cN, if_true] at h3
      have h4 := cL_mono K n (show K b + 1 ≤ K a by omega)
      omega
theorem idL_get {n t : Nat} (h : t < n) : (idL n).getD t 0 = (t : Int) := by simp [idL, List.getD, h]
theorem stabG_at (K : Nat → Nat) {n q : Nat} (h : q < n) : (stabG K n).getD (posK K n q) 0 = (q : Int) := by
  have hlt := posK_lt K h
  have hl : (idL n).length = n := by simp [idL]
  have := outF_at K (idL n) q (fun t ht hqt => by rw [hl] at ht ⊢; exact (posK_inj K n hqt ht).symm) n h (by rw [hl]; exact Nat.le_refl _)
  rw [hl, idL_get h] at this
  unfold stabG
  rw [← this]
  simp [List.getD, hlt]
theorem laid_eqG {K : Nat → Nat} {n : Nat} {D : List Int} (h : Laid K n D) : D = stabG K n := by
  refine getD_ext (by rw [h.len]; simp [stabG]) (fun p hp => ?_)
  rw [h.len] at hp
  obtain ⟨q, h1, h2, h3⟩ := h.at_ p hp
  rw [h1, ← h3, stabG_at K h2]
end Go.Proofs.Ytnijpeeehnnipaa.AM

set_option linter.unusedVariables false
set_option linter.unusedSimpArgs false
set_option maxRecDepth 20000
namespace Go.Proofs.Ytnijpeeehnnipaa.AM
open Go Go.RowKit

theorem posK_succ (K : Nat → Nat) (i q : Nat) : posK K (i + 1) q = posK K i q + (if K i < K q then 1 else 0) := by
  unfold posK; simp only [cL]; omega
theorem pos_low {K : Nat → Nat} {i q : Nat} (hq : q < i) (h : K q ≤ K i) : posK K i q < cL K (K i + 1) i := by
  have h1 := cN_mono K (K q) (show q + 1 ≤ i by omega)
  have h2 := cL_next K (K q) i
  have h3 := cL_mono K i (show K q + 1 ≤ K i + 1 by omega)
  simp only [cN, if_true] at h1
  unfold posK; omega
theorem pos_high {K : Nat → Nat} {i q : Nat} (h : K i < K q) : cL K (K i + 1) i ≤ posK K i q := by
  have h3 := cL_mono K i (show K i + 1 ≤ K q by omega)
  unfold posK; omega
def insAt (D : List Int) (k i : Nat) : List Int := D.take k ++ ((i : Int) :: D.drop k)
theorem insAt_len {D : List Int} {k i : Nat} (h : k ≤ D.length) : (insAt D k i).length = D.length + 1 := by
  unfold insAt; rw [List.length_append, List.length_cons, List.length_take, List.length_drop]; omega
theorem insAt_get {D : List Int} {k i : Nat} (h : k ≤ D.length) (p : Nat) : (insAt D k i).getD p 0 = if p < k then D.getD p 0 else if p = k then (i : Int) else D.getD (p - 1) 0 := by
  unfold insAt
  have hl : (D.take k).length = k := by rw [List.length_take]; omega
  by_cases h1 : p < k
  · rw [if_pos h1, List.getD, List.getElem?_append_left (by omega), List.getElem?_take, if_pos h1]; rfl
  · rw [if_neg h1, List.getD, List.getElem?_append_right (by omega), hl]
    by_cases h2 : p = k
    · subst h2; rw [if_pos rfl, Nat.sub_self]; rfl
    · rw [if_neg h2]
      obtain ⟨d, hd⟩ : ∃ d, p - k = d + 1 := ⟨p - k - 1, by omega⟩
      rw [hd, List.getElem?_cons_succ, List.getElem?_drop, show k + d = p - 1 by omega]; rfl
theorem laid_succ {K : Nat → Nat} {i : Nat} {D : List Int} (h : Laid K i D) : Laid K (i + 1) (insAt D (cL K (K i + 1) i) i) := by
  have hk := cL_le K (K i + 1) i
  refine ⟨by rw [insAt_len (by rw [h.len]; exact hk), h.len], fun p hp => ?_⟩
  rw [insAt_get (by rw [h.len]; exact hk)]
  by_cases h1 : p < cL K (K i + 1) i
  · obtain ⟨q, e1, e2, e3⟩ := h.at_ p (by omega)
    refine ⟨q, by rw [if_pos h1, e1], by omega, ?_⟩
    rw [posK_succ, e3]
    by_cases h2 : K i < K q
    · have := pos_high h2; omega
    · rw [if_neg h2]; omega
  · by_cases h2 : p = cL K (K i + 1) i
    · refine ⟨i, by rw [if_neg h1, if_pos h2], by omega, ?_⟩
      unfold posK
      simp only [cL]
      rw [if_neg (Nat.lt_irrefl _), h2, cL_next]; omega
    · obtain ⟨q, e1, e2, e3⟩ := h.at_ (p - 1) (by omega)
      refine ⟨q, by rw [if_neg h1, if_neg h2, e1], by omega, ?_⟩
      rw [posK_succ, e3]
      by_cases h3 : K i < K q
      · rw [if_pos h3]; omega
      · have := pos_low e2 (by omega : K q ≤ K i); omega

theorem getD_mem {l : List Int} {k : Nat} (h : k < l.length) : l.getD k 0 ∈ l := by
  simp [List.getD, List.getElem?_eq_getElem h]
end Go.Proofs.Ytnijpeeehnnipaa.AM

set_option linter.unusedVariables false
set_option linter.unusedSimpArgs false
set_option maxRecDepth 20000
namespace Go.Proofs.Ytnijpeeehnnipaa.AM
open Go Go.RowKit

theorem isNaNc_spec (a : Int) : PCalls Try.prog 70 [.int .i64 a] (.bool false) := by
  refine PCalls.of_aw Try.func70 rfl (by unfold Callable; kernel_rfl) (by kernel_rfl) (by simp [Try.ntmps70]) ?_; rw [Try.ntmps70, Try.results70]; (simp (disch := first | exact dq | fail) only [go_sem])
  (repeat' (first | refine Nx.go ?_ | fail) <;> try (simp (disch := first | exact dq | fail) only [go_sem]))
  all_goals (try omega)
theorem isNaNs_spec (a : Int) : PCalls Try.prog 78 [.int .i64 a] (.bool false) := by
  refine PCalls.of_aw Try.func78 rfl (by unfold Callable; kernel_rfl) (by kernel_rfl) (by simp [Try.ntmps78]) ?_; rw [Try.ntmps78, Try.results78]; (simp (disch := first | exact dq | fail) only [go_sem])
  (repeat' (first | refine Nx.go ?_ | fail) <;> try (simp (disch := first | exact dq | fail) only [go_sem]))
  all_goals (try omega)
theorem Less_spec (a b : Int) : PCalls Try.prog 77 [.int .i64 a, .int .i64 b] (.bool (decide (a < b))) := by
  refine PCalls.of_aw Try.func77 rfl (by unfold Callable; kernel_rfl) (by kernel_rfl) (by simp [Try.ntmps77]) ?_; rw [Try.ntmps77, Try.results77]; (simp (disch := first | exact dq | fail) only [go_sem])
  (repeat' (first | refine Nx.go ?_ | fail) <;> try (simp (disch := first | exact dq | fail) only [go_sem]))
  ((with_reducible first | apply left_callf | apply leftD_callf | apply leftF_callf); (· with_reducible rfl); (· (simp (disch := first | exact dq | fail) only [go_sem]) <;> rfl); (· exact isNaNc_spec a); try (simp (disch := first | exact dq | fail) only [go_sem]))
  (repeat' (first | refine Nx.go ?_ | fail) <;> try (simp (disch := first | exact dq | fail) only [go_sem]))
theorem Len_spec64 (x : Nat) (hx : x < 18446744073709551616) : PCalls Try.prog 76 [.int .u64 (x : Int)] (.int .i64 (Lib.bitLen x : Int)) := by
  refine PCalls.of_aw Try.func76 rfl (by unfold Callable; kernel_rfl) (by kernel_rfl) (by simp [Try.ntmps76]) ?_; rw [Try.ntmps76, Try.results76]; (simp (disch := first | exact dq | fail) only [go_sem])
  (repeat' (first | refine Nx.go ?_ | fail) <;> try (simp (disch := first | exact dq | fail) only [go_sem]))
  ((with_reducible first | apply left_callf | apply leftD_callf | apply leftF_callf); (· with_reducible rfl); (· (simp (disch := first | exact dq | fail) only [go_sem]) <;> rfl); (· exact Len64_spec x hx); try (simp (disch := first | exact dq | fail) only [go_sem]))
  (repeat' (first | refine Nx.go ?_ | fail) <;> try (simp (disch := first | exact dq | fail) only [go_sem]))
theorem Clone_M (l : List Int) (h : 0 < l.length) (hl : l.length ≤ 1000000) : MCalls Try.prog 66 [.iv (inl l)] [] (.msl 0 0 l.length l.length) [.row true 3 1 (l.map (IV.int .i64))] := by
  refine MCalls.of_aw Try.func66 rfl (by unfold Callable; kernel_rfl) (by kernel_rfl) (by simp [Try.ntmps66]) (by (simp (disch := first | exact dq | fail) only [go_sem])) ?_; rw [Try.ntmps66, Try.results66]; (simp (disch := first | exact dq | fail) only [go_sem])
  (repeat' (with_reducible first | refine Nx.go ?_ | refine And.intro ?_ ?_ | fail) <;> try (simp (disch := first | exact dq | fail) only [go_sem]))
  all_goals (try omega)
  refine fin_k [1] ?_
  (simp (disch := first | exact dq | fail) only [go_sem])
end Go.Proofs.Ytnijpeeehnnipaa.AM

set_option linter.unusedVariables false
set_option linter.unusedSimpArgs false
set_option maxRecDepth 20000
namespace Go.Proofs.Ytnijpeeehnnipaa.AM
open Go Go.RowKit

theorem Has_spec (l : List Int) (n : Int) (hl : l.length ≤ 100000000) : PCalls Try.prog 34 [inl l, .int .i64 n] (.bool (decide (n ∈ l))) := by
  refine PCalls.of_aw Try.func34 rfl (by unfold Callable; kernel_rfl) (by kernel_rfl) (by simp [Try.ntmps34]) ?_; rw [Try.ntmps34, Try.results34]; (simp (disch := first | exact dq | fail) only [go_sem])
  (repeat' (first | refine Nx.go ?_ | fail) <;> try (simp (disch := first | exact dq | fail) only [go_sem]))
  refine aw_loop (α := Nat) (fun j => ⟨18, sl [(0, .iv (inl l)), (1, .iv (.int .i64 n)), (5, .iv (.int .i64 j))], [], 0⟩)
    (fun j => j ≤ l.length ∧ ∀ k, k < j → l.getD k 0 ≠ n) (fun j => l.length - j) 0 (wk_by [] ?_) ⟨by omega, by omega⟩ ?_
  · (simp (disch := first | exact dq | fail) only [go_sem])
  rintro j ⟨hj, hk⟩
  (repeat' first
  | ((with_reducible first | refine Nx.go ?_ | refine And.intro ?_ ?_ | fail) <;> try (simp (disch := first | exact dq | fail) only [go_sem]))
  | ((with_reducible refine Sp.go ?_ ?_) <;> intro h <;> (try (simp (disch := first | exact dq | fail) only [go_sem] at h)) <;> try (simp (disch := first | exact dq | fail) only [go_sem, h])) | fail)
  all_goals (try omega)
  · have : n ∈ l := by rw [← h]; exact getD_mem (by omega)
    simp [this]
  · refine ⟨j + 1, ⟨by omega, fun k hkj => ?_⟩, wk_by [] ?_, by omega⟩
    · by_cases e : k = j
      · subst e; assumption
      · exact hk k (by omega)
    · (simp (disch := first | exact dq | fail) only [go_sem])
  · have : n ∉ l := by
      intro hm
      obtain ⟨k, hkl, e⟩ := List.mem_iff_getElem.1 hm
      exact hk k (by omega) (by simp [List.getD, List.getElem?_eq_getElem hkl, e])
    simp [this]
def allB (p : List Int) : Bool := (List.range p.length).all fun (i : Nat) => decide ((i : Int) ∈ p)
theorem allB_no {p : List Int} {i : Nat} (h : i < p.length) (hn : (i : Int) ∉ p) : allB p = false := by
  cases hb : allB p with
  | false => rfl
  | true =>
    unfold allB at hb
    rw [List.all_eq_true] at hb
    exact absurd (of_decide_eq_true (hb i (List.mem_range.2 h))) hn
theorem allB_yes {p : List Int} (h : ∀ i : Nat, i < p.length → (i : Int) ∈ p) : allB p = true := by
  unfold allB
  rw [List.all_eq_true]
  exact fun i hi => decide_eq_true (h i (List.mem_range.1 hi))
theorem All_spec (p : List Int) (hl : p.length ≤ 100000000) : PCalls Try.prog 16 [inl p] (.bool (allB p)) := by
  refine PCalls.of_aw Try.func16 rfl (by unfold Callable; kernel_rfl) (by kernel_rfl) (by simp [Try.ntmps16]) ?_; rw [Try.ntmps16, Try.results16]; (simp (disch := first | exact dq | fail) only [go_sem])
  (repeat' (first | refine Nx.go ?_ | fail) <;> try (simp (disch := first | exact dq | fail) only [go_sem]))
  refine aw_loop (α := Nat) (fun j => ⟨16, sl [(0, .iv (inl p)), (3, .iv (.int .i64 j))], [], 0⟩)
    (fun j => j ≤ p.length ∧ ∀ k : Nat, k < j → (k : Int) ∈ p) (fun j => p.length - j) 0 (wk_by [] ?_) ⟨by omega, by omega⟩ ?_
  · (simp (disch := first | exact dq | fail) only [go_sem])
  rintro j ⟨hj, hk⟩
  (repeat' first
  | ((first | refine Nx.go ?_ | fail) <;> try (simp (disch := first | exact dq | fail) only [go_sem]))
  | ((with_reducible refine Sp.go ?_ ?_) <;> intro h <;> (try (simp (disch := first | exact dq | fail) only [go_sem] at h)) <;> try (simp (disch := first | exact dq | fail) only [go_sem, h])) | fail)
  · ((with_reducible first | apply left_callf | apply leftD_callf | apply leftF_callf); (· with_reducible rfl); (· (simp (disch := first | exact dq | fail) only [go_sem]) <;> rfl); (· exact Has_spec p j hl); try (simp (disch := first | exact dq | fail) only [go_sem]))
    (repeat' first
  | ((first | refine Nx.go ?_ | fail) <;> try (simp (disch := first | exact dq | fail) only [go_sem]))
  | ((with_reducible refine Sp.go ?_ ?_) <;> intro h <;> (try (simp (disch := first | exact dq | fail) only [go_sem] at h)) <;> try (simp (disch := first | exact dq | fail) only [go_sem, h])) | fail)
    · rw [allB_no (by omega) h]
    · refine ⟨j + 1, ⟨by omega, fun k hkj => ?_⟩, wk_by [] ?_, by omega⟩
      · by_cases e : k = j
        · subst e; assumption
        · exact hk k (by omega)
      · (simp (disch := first | exact dq | fail) only [go_sem])
  · rw [allB_yes (fun i hi => hk i (by omega))]
theorem pigeon : ∀ (l1 l2 : List Int), l1.Nodup → (∀ x ∈ l1, x ∈ l2) → l2.length ≤ l1.length → l1.Perm l2
  | [], l2, _, _, h => by
    have : l2 = [] := List.eq_nil_of_length_eq_zero (by simpa using h)
    subst this; exact List.Perm.refl _
  | a :: l1, l2, hn, hs, h => by
    have ha := hs a (by simp)
    have hp := List.perm_cons_erase ha
    rw [List.nodup_cons] at hn
    refine (List.Perm.cons a (pigeon l1 (l2.erase a) hn.2 (fun x hx => ?_) ?_)).trans hp.symm
    · have hne : x ≠ a := fun e => hn.1 (e ▸ hx)
      exact (List.mem_erase_of_ne hne).2 (hs x (List.mem_cons_of_mem _ hx))
    · rw [List.length_erase_of_mem ha]
      simp only [List.length_cons] at h; omega
theorem idL_nodup (n : Nat) : (idL n).Nodup := by
  unfold idL
  rw [List.Nodup, List.pairwise_map]
  exact List.nodup_range.imp (fun h e => h (by omega))
theorem mem_idL {n : Nat} {x : Int} : x ∈ idL n ↔ ∃ k : Nat, k < n ∧ x = k := by
  unfold idL
  rw [List.mem_map]
  exact ⟨fun ⟨k, h1, h2⟩ => ⟨k, List.mem_range.1 h1, h2.symm⟩, fun ⟨k, h1, h2⟩ => ⟨k, List.mem_range.2 h1, h2.symm⟩⟩
theorem allB_perm {p : List Int} (h : allB p = true) : p.Perm (idL p.length) := by
  unfold allB at h
  rw [List.all_eq_true] at h
  refine (pigeon _ _ (idL_nodup _) (fun x hx => ?_) (by simp [idL])).symm
  obtain ⟨k, hk, rfl⟩ := mem_idL.1 hx
  exact of_decide_eq_true (h k (List.mem_range.2 hk))
theorem stabG_len (K : Nat → Nat) (n : Nat) : (stabG K n).length = n := by simp [stabG]
theorem stabG_all (K : Nat → Nat) (n : Nat) : allB (stabG K n) = true := by
  refine allB_yes (fun i hi => ?_)
  rw [stabG_len] at hi
  rw [← stabG_at K hi]
  exact getD_mem (by rw [stabG_len]; exact posK_lt K hi)
theorem posK_before {K : Nat → Nat} {n a b : Nat} (ha : a < n) (hb : b < n) (h : K a < K b ∨ K a = K b ∧ a < b) : posK K n a < posK K n b := by
  unfold posK
  rcases h with h | ⟨h, hab⟩
  · have h2 := cL_next K (K a) n
    have h3 := cN_mono K (K a) (show a + 1 ≤ n by omega)
    simp only [cN, if_true] at h3
    have h4 := cL_mono K n (show K a + 1 ≤ K b by omega)
    omega
  · have h1 := cN_mono K (K a) (show a + 1 ≤ b by omega)
    simp only [cN, if_true] at h1
    rw [h] at h1 ⊢; omega
theorem nodup_inj {l : List Int} (h : l.Nodup) {i j : Nat} (hi : i < l.length) (hj : j < l.length) (e : l.getD i 0 = l.getD j 0) : i = j := by
  simp only [List.getD, List.getElem?_eq_getElem hi, List.getElem?_eq_getElem hj, Option.getD_some] at e
  have hp := List.pairwise_iff_getElem.1 h
  rcases Nat.lt_trichotomy i j with g | g | g
  · exact absurd e (hp i j hi hj g)
  · exact g
  · exact absurd e.symm (hp j i hj hi g)
theorem stabG_who (K : Nat → Nat) {n p : Nat} (h : p < n) : ∃ q : Nat, (stabG K n).getD p 0 = (q : Int) ∧ q < n ∧ posK K n q = p := by
  have hp := allB_perm (stabG_all K n)
  rw [stabG_len] at hp
  have hm : (stabG K n).getD p 0 ∈ idL n := hp.mem_iff.1 (getD_mem (by rw [stabG_len]; exact h))
  obtain ⟨q, hq, e⟩ := mem_idL.1 hm
  refine ⟨q, e, hq, ?_⟩
  have h1 := stabG_at K hq
  have hnd : (stabG K n).Nodup := hp.nodup_iff.2 (idL_nodup n)
  have hlt := posK_lt K hq
  have hl := stabG_len K n
  rw [← e] at h1
  exact nodup_inj hnd (by omega) (by omega) h1
theorem stabG_next (K : Nat → Nat) {n a b i : Nat} (hi : i + 1 < n) (ha : (stabG K n).getD i 0 = (a : Int)) (hb : (stabG K n).getD (i + 1) 0 = (b : Int)) : a < n ∧ b < n ∧ (K a < K b ∨ K a = K b ∧ a < b) := by
  obtain ⟨a', h1, h2, h3⟩ := stabG_who K (show i < n by omega)
  obtain ⟨b', h4, h5, h6⟩ := stabG_who K hi
  have e1 : a = a' := by omega
  have e2 : b = b' := by omega
  subst e1 e2
  refine ⟨h2, h5, ?_⟩
  rcases Nat.lt_trichotomy (K a) (K b) with h | h | h
  · exact .inl h
  · refine .inr ⟨h, ?_⟩
    rcases Nat.lt_trichotomy a b with g | g | g
    · exact g
    · subst g; omega
    · have := posK_before h5 h2 (.inr ⟨h.symm, g⟩); omega
  · have := posK_before h5 h2 (.inl h); omega
end Go.Proofs.Ytnijpeeehnnipaa.AM
