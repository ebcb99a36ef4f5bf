
/- Chapter 16: xbw.Build. No condition but lengths that fit. -/
import Derived.Test.YtnijpeeehnnipaaYF
set_option linter.unusedVariables false
set_option linter.unusedSimpArgs false
set_option maxRecDepth 20000
namespace Go.Proofs.Ytnijpeeehnnipaa.AM
open Go Go.RowKit

def fdx (x : Int) : List Int → Option Nat
  | [] => none
  | k :: ks => if x = k then some 0 else (fdx x ks).map (· + 1)
theorem findK_int (x : Int) : ∀ (K : List Int) (i : Nat), findK (.int .i64 x) (K.map (IV.int .i64)) i = some ((fdx x K).map (· + i))
  | [], i => rfl
  | k :: K, i => by
    rw [List.map_cons, findK, fdx]
    simp only [keyEq, if_true]
    by_cases h : x = k
    · rw [decide_eq_true h, if_pos h]; simp
    · rw [decide_eq_false h, if_neg h]
      simp only [findK_int x K (i + 1)]
      cases fdx x K with
      | none => rfl
      | some q => simp [Nat.add_assoc, Nat.add_comm 1 i]
theorem findK_int0 (x : Int) (K : List Int) : findK (.int .i64 x) (K.map (IV.int .i64)) 0 = some (fdx x K) := by
  rw [findK_int]; cases fdx x K <;> rfl
theorem fdx_some {x : Int} : ∀ {K : List Int} {q : Nat}, fdx x K = some q → K[q]? = some x
  | [], q, h => by cases h
  | k :: K, q, h => by
    rw [fdx] at h
    by_cases e : x = k
    · rw [if_pos e] at h; cases h; rw [e]; rfl
    · rw [if_neg e] at h
      cases hf : fdx x K with
      | none => rw [hf] at h; cases h
      | some p => rw [hf] at h; cases h; rw [List.getElem?_cons_succ]; exact fdx_some hf
theorem fdx_snoc (y x : Int) : ∀ K : List Int, fdx y K = none → fdx y (K ++ [x]) = if y = x then some K.length else none
  | [], _ => by rw [List.nil_append, fdx]; rfl
  | k :: K, h => by
    rw [fdx] at h
    by_cases e : y = k
    · rw [if_pos e] at h; cases h
    · rw [if_neg e] at h
      have h2 : fdx y K = none := by cases hf : fdx y K with | none => rfl | some p => rw [hf] at h; cases h
      rw [List.cons_append, fdx, if_neg e, fdx_snoc y x K h2]
      by_cases e2 : y = x
      · rw [if_pos e2, if_pos e2]; rfl
      · rw [if_neg e2, if_neg e2]; rfl
theorem fdx_old {y : Int} (x : Int) : ∀ {K : List Int} {q : Nat}, fdx y K = some q → fdx y (K ++ [x]) = some q
  | [], q, h => by cases h
  | k :: K, q, h => by
    rw [fdx] at h
    rw [List.cons_append, fdx]
    by_cases e : y = k
    · rw [if_pos e] at h ⊢; exact h
    · rw [if_neg e] at h ⊢
      cases hf : fdx y K with
      | none => rw [hf] at h; cases h
      | some p => rw [hf] at h; cases h; rw [fdx_old x hf]; rfl
def LastM (t : Tr) (n : Nat) (K V : List Int) : Prop := K.length = V.length ∧ ∀ x : Int, (fdx x K = none ∧ ∀ j : Nat, j < n → parF t j ≠ x) ∨
  ∃ (q j : Nat), fdx x K = some q ∧ V[q]? = some (j : Int) ∧ j < n ∧ parF t j = x ∧ ∀ j' : Nat, j < j' → j' < n → parF t j' ≠ x
theorem LastM.nil (t : Tr) : LastM t 0 [] [] := ⟨rfl, fun x => .inl ⟨rfl, fun j hj => absurd hj (Nat.not_lt_zero _)⟩⟩
theorem LastM.old {t : Tr} {n q : Nat} {K V : List Int} (h : LastM t n K V) (hq : fdx (parF t n) K = some q) : LastM t (n + 1) K (V.set q n) := by
  have hql : q < V.length := by have := lt_of_get (fdx_some hq); rw [h.1] at this; exact this
  refine ⟨by rw [List.length_set]; exact h.1, fun x => ?_⟩
  by_cases e : x = parF t n
  · subst e
    exact .inr ⟨q, n, hq, List.getElem?_set_self hql, Nat.lt_succ_self n, rfl, fun j' h1 h2 => by omega⟩
  · rcases h.2 x with ⟨h1, h2⟩ | ⟨p, j, h1, h2, h3, h4, h5⟩
    · refine .inl ⟨h1, fun j hj => ?_⟩
      by_cases e2 : j = n
      · subst e2; exact fun h => e h.symm
      · exact h2 j (by omega)
    · refine .inr ⟨p, j, h1, ?_, by omega, h4, fun j' h6 h7 => ?_⟩
      · rw [List.getElem?_set_ne]
        · exact h2
        · rintro rfl
          have a1 := fdx_some hq
          have a2 := fdx_some h1
          rw [a1] at a2; cases a2; exact e rfl
      · by_cases e2 : j' = n
        · subst e2; exact fun h => e h.symm
        · exact h5 j' h6 (by omega)
theorem LastM.new {t : Tr} {n : Nat} {K V : List Int} (h : LastM t n K V) (hq : fdx (parF t n) K = none) : LastM t (n + 1) (K ++ [parF t n]) (V ++ [(n : Int)]) := by
  refine ⟨by rw [List.length_append, List.length_append, h.1]; rfl, fun x => ?_⟩
  by_cases e : x = parF t n
  · subst e
    refine .inr ⟨K.length, n, by rw [fdx_snoc _ _ K hq, if_pos rfl], by rw [h.1]; simp, Nat.lt_succ_self n, rfl, fun j' h1 h2 => by omega⟩
  · rcases h.2 x with ⟨h1, h2⟩ | ⟨p, j, h1, h2, h3, h4, h5⟩
    · refine .inl ⟨by rw [fdx_snoc _ _ K h1, if_neg e], fun j hj => ?_⟩
      by_cases e2 : j = n
      · subst e2; exact fun h => e h.symm
      · exact h2 j (by omega)
    · refine .inr ⟨p, j, fdx_old _ h1, ?_, by omega, h4, fun j' h6 h7 => ?_⟩
      · rw [List.getElem?_append_left (lt_of_get h2)]; exact h2
      · by_cases e2 : j' = n
        · subst e2; exact fun h => e h.symm
        · exact h5 j' h6 (by omega)
theorem chT_none {t : Tr} {i : Int} (h : ∀ j : Nat, j < t.len → parF t j ≠ i) : chT t i = [] := by
  unfold chT chN
  split
  · rw [List.filter_eq_nil_iff]
    intro x hx
    obtain ⟨k, h1, rfl⟩ := mem_idL.1 hx
    simpa using h k h1
  · rfl
theorem chT_mem {t : Tr} {i x : Int} : x ∈ chT t i ↔ 0 ≤ i ∧ ∃ k : Nat, x = k ∧ k < t.len ∧ parF t k = i := by
  unfold chT chN
  split
  · rename_i h0
    rw [List.mem_filter, mem_idL, decide_eq_true_eq]
    constructor
    · rintro ⟨⟨k, h1, rfl⟩, h2⟩; exact ⟨h0, k, rfl, h1, h2⟩
    · rintro ⟨_, k, rfl, h1, h2⟩; exact ⟨⟨k, h1, rfl⟩, h2⟩
  · rename_i h0
    exact ⟨fun h => absurd h (List.not_mem_nil), fun h => absurd h.1 h0⟩
theorem LastM.leaf {t : Tr} {K V : List Int} (h : LastM t t.len K V) (i : Nat) : leafB t i = (fdx i K).isNone := by
  unfold leafB
  rcases h.2 i with ⟨h1, h2⟩ | ⟨p, j, h1, h2, h3, h4, h5⟩
  · rw [h1, chT_none h2]; rfl
  · rw [h1]
    have : (j : Int) ∈ chT t i := chT_mem.2 ⟨Int.natCast_nonneg _, j, rfl, h3, h4⟩
    have := List.length_pos_iff.2 (List.ne_nil_of_mem this)
    rw [decide_eq_false (by omega)]; rfl
theorem lastB_iff {t : Tr} {i : Nat} : lastB t i = true ↔ ∀ j : Nat, i < j → j < t.len → parF t j ≠ parF t i := by
  unfold lastB lastN
  rw [List.all_eq_true]
  constructor
  · intro h j h1 h2
    have := h j (List.mem_range.2 h2)
    rw [Bool.or_eq_true, decide_eq_true_eq, decide_eq_true_eq] at this
    rcases this with h3 | h3
    · omega
    · exact h3
  · intro h j hj
    rw [Bool.or_eq_true, decide_eq_true_eq, decide_eq_true_eq]
    by_cases c : (j : Int) ≤ i
    · exact .inl c
    · exact .inr (h j (by omega) (List.mem_range.1 hj))
theorem LastM.last {t : Tr} {K V : List Int} (h : LastM t t.len K V) {i : Nat} (hi : i < t.len) : ∃ (q j : Nat), fdx (parF t i) K = some q ∧ V[q]? = some (j : Int) ∧ lastB t i = decide ((j : Int) = i) := by
  rcases h.2 (parF t i) with ⟨h1, h2⟩ | ⟨p, j, h1, h2, h3, h4, h5⟩
  · exact absurd rfl (h2 i hi)
  · refine ⟨p, j, h1, h2, Bool.eq_iff_iff.2 ?_⟩
    rw [lastB_iff, decide_eq_true_eq]
    constructor
    · intro hh
      have a1 : ¬ j < i := fun g => h5 i g hi rfl
      have a2 : ¬ i < j := fun g => hh j g h3 h4
      omega
    · intro e j' h6 h7
      exact h5 j' (by omega) h7
def sltF (t : Tr) (j : Nat) : Nat := if 0 ≤ parF t j then (symF t (parF t j) + 1).toNat else 0
theorem sltF_le (t : Tr) (j : Nat) : sltF t j ≤ 2 * t.names.length + 1 := by
  unfold sltF
  split
  · have := symF_le t (parF t j); omega
  · omega
def cntF (t : Tr) (n m : Nat) : Nat := (List.range n).countP (fun j => decide (sltF t j = m))
theorem cntF_le (t : Tr) (n m : Nat) : cntF t n m ≤ n := by
  have := List.countP_le_length (p := fun (j : Nat) => decide (sltF t j = m)) (l := List.range n)
  rwa [List.length_range] at this
theorem cntF_succ (t : Tr) (n m : Nat) : cntF t (n + 1) m = cntF t n m + (if sltF t n = m then 1 else 0) := by
  unfold cntF
  rw [List.range_succ, List.countP_append, List.countP_cons, List.countP_nil, Nat.zero_add]
  simp only [decide_eq_true_eq]
theorem beg_next (t : Tr) (m n : Nat) : begN t ((m + 1 : Nat) : Int) n = begN t m n + cntF t n (m + 1) := by
  induction n with
  | zero => rfl
  | succ n ih =>
    rw [begN_succ, begN_succ, cntF_succ, ih]
    unfold sltF
    by_cases c : parF t n < 0
    · rw [decide_eq_true c, Bool.true_or, Bool.true_or, if_neg (show ¬ 0 ≤ parF t n by omega)]
      simp; omega
    · rw [decide_eq_false c, Bool.false_or, Bool.false_or, if_pos (show 0 ≤ parF t n by omega)]
      have := symF_ge t (parF t n)
      simp only [decide_eq_true_eq]
      split <;> split <;> split <;> omega
theorem beg_zero (t : Tr) (n : Nat) : begN t ((0 : Nat) : Int) n = cntF t n 0 := by
  induction n with
  | zero => rfl
  | succ n ih =>
    rw [begN_succ, cntF_succ, ih]
    unfold sltF
    by_cases c : parF t n < 0
    · rw [decide_eq_true c, Bool.true_or, if_neg (show ¬ 0 ≤ parF t n by omega)]
      simp
    · rw [decide_eq_false c, Bool.false_or, if_pos (show 0 ≤ parF t n by omega)]
      have := symF_ge t (parF t n)
      simp only [decide_eq_true_eq]
      split <;> split <;> omega
theorem rens_ints (σ : Nat → Nat) : ∀ V : List Int, rens σ (V.map (fun v => AV.iv (.int .i64 v))) = V.map (fun v => AV.iv (.int .i64 v))
  | [] => rfl
  | v :: V => by rw [List.map_cons, rens, rens_ints σ V]; rfl
set_option maxHeartbeats 16000000 in
theorem xbwBuild_spec (t : Tr) (hl : t.nodes.length ≤ 1000000) (hn : t.names.length ≤ 1000000) : PCalls Try.prog 11 [trV t] (.tup [rwV (bldF t).1, .int .i64 (if (bldF t).2 = true then 0 else 1)]) := by
  have hP := fun i => Parent15_spec t i hl
  have hS := fun i => Symbol15_spec t i hl hn
  have hSy := Symbols15_spec t hn
  have hO := xbwOrder_spec t hl hn
  have hlen : t.len = t.nodes.length := rfl
  have hOl := ordL_len t
  have hOm := fun x => @ordL_mem t x
  have hsl := sltF_le t
  obtain ⟨z, hz⟩ : ∃ z : Nat, (2 * (t.names.length : Int) + 1) = z := ⟨2 * t.names.length + 1, by omega⟩
  obtain ⟨Z, hZ⟩ : ∃ Z : Nat, (z : Int) + 1 = Z := ⟨z + 1, by omega⟩
  have hZz : Z = 2 * t.names.length + 2 := by omega
  rw [hz] at hSy
  generalize hX : bldF t = X
  unfold bldF badT at hX
  unfold trV at *
  refine PCalls.of_awS Try.func11 rfl (by unfold Callable; kernel_rfl) (by kernel_rfl) (by simp [Try.ntmps11]) ?_; rw [Try.ntmps11, Try.results11]; (simp (maxSteps := 1000000) (disch := first | exact dq | fail) only [go_sem])
  (repeat' (first | refine Nx.go ?_ | fail) <;> try (simp (maxSteps := 1000000) (disch := first | exact dq | fail) only [go_sem]))
  all_goals (try omega)
  ((with_reducible first | apply left_callf | apply leftD_callf | apply leftF_callf); (· with_reducible rfl); (· (simp (maxSteps := 1000000) (disch := first | exact dq | fail) only [go_sem]) <;> rfl); (· exact hSy); try (simp (maxSteps := 1000000) (disch := first | exact dq | fail) only [go_sem]))
  (repeat' (with_reducible first | refine Nx.go ?_ | refine And.intro ?_ ?_ | fail) <;> try (simp (maxSteps := 1000000) (disch := first | exact dq | fail) only [go_sem, hZ]))
  all_goals (try omega)
  refine aw_postE (β := List Int × List Int) (fun y => ⟨143, sl [(1, .mp 0 0), (2, .mp 1 0), (4, .iv (.int .i64 t.nodes.length)), (5, .iv (.int .i64 z)), (6, .mr 2), (7, .msl 3 0 t.nodes.length t.nodes.length), (8, .msl 4 0 t.nodes.length t.nodes.length), (9, .msl 5 0 Z Z)], [.var 25 [.iv (.sl 1 (t.names.map fun s => IV.str (bs s))), .iv (.sl 4 (t.nodes.map ndV))], .var 31 [.nilsl, .nilsl, .nilsl, .nilsl, .nilsl], .obj (.map true (y.1.map (IV.int .i64)) (y.2.map (fun v => AV.iv (.int .i64 v)))), .row true 3 1 (rowF t.nodes.length (fun m => parF t m)), .row true 3 1 (rowF t.nodes.length (fun m => symF t m)), .row true 3 1 (rowF Z (fun m => (cntF t t.nodes.length m : Nat)))], 0⟩) (fun y => LastM t t.nodes.length y.1 y.2 ∧ ∀ q : Nat, q < t.nodes.length → 0 ≤ symF t q) ?_ ?_
  · refine aw_loop (α := Nat × List Int × List Int) (fun y => ⟨143, sl [(1, .mp 0 0), (2, .mp 1 0), (4, .iv (.int .i64 t.nodes.length)), (5, .iv (.int .i64 z)), (6, .mr 2), (7, .msl 3 0 t.nodes.length t.nodes.length), (8, .msl 4 0 t.nodes.length t.nodes.length), (9, .msl 5 0 Z Z), (31, .iv (.int .i64 t.nodes.length)), (32, .iv (.int .i64 y.1))], [.var 25 [.iv (.sl 1 (t.names.map fun s => IV.str (bs s))), .iv (.sl 4 (t.nodes.map ndV))], .var 31 [.nilsl, .nilsl, .nilsl, .nilsl, .nilsl], .obj (.map true (y.2.1.map (IV.int .i64)) (y.2.2.map (fun v => AV.iv (.int .i64 v)))), .row true 3 1 (rowU t.nodes.length (fun m => parF t m) y.1), .row true 3 1 (rowU t.nodes.length (fun m => symF t m) y.1), .row true 3 1 (rowF Z (fun m => (cntF t y.1 m : Nat)))], 0⟩)
      (fun y => y.1 ≤ t.nodes.length ∧ LastM t y.1 y.2.1 y.2.2 ∧ ∀ q : Nat, q < y.1 → 0 ≤ symF t q) (fun y => t.nodes.length - y.1) (0, [], []) (wk_by [0, 1, 2, 3, 4, 5] ?_) ⟨Nat.zero_le _, LastM.nil t, fun q hq => absurd hq (Nat.not_lt_zero _)⟩ ?_
    · (simp (maxSteps := 1000000) (disch := first | exact dq | fail) only [go_sem])
      exact ⟨by rw [rowU_zero t.nodes.length (fun m => parF t m)], by rw [rowU_zero t.nodes.length (fun m => symF t m)], by rw [rowF_rep]; rfl⟩
    rintro ⟨i, K, V⟩ ⟨hi, hLM, hno⟩
    dsimp only at hi hLM hno
    by_cases g : i < t.nodes.length
    · have g1 : (i : Int) < t.nodes.length := by omega
      have hl1 := rowU_len t.nodes.length (fun m => parF t m) i
      have hl2 := rowU_len t.nodes.length (fun m => symF t m) i
      have hs1 := @rowU_set t.nodes.length i (fun m => parF t m) (parF t i) rfl
      have hs2 := @rowU_set t.nodes.length i (fun m => symF t m) (symF t i) rfl
      have hg1 : (rowU t.nodes.length (fun m => parF t m) (i + 1))[i]? = some (.int .i64 (parF t i)) := rowU_get g (Nat.lt_succ_self i)
      have hg2 : (rowU t.nodes.length (fun m => symF t m) (i + 1))[i]? = some (.int .i64 (symF t i)) := rowU_get g (Nat.lt_succ_self i)
      obtain ⟨z1, ho1⟩ := @rowU_old t.nodes.length i i (fun m => parF t m) g
      obtain ⟨z2, ho2⟩ := @rowU_old t.nodes.length i i (fun m => symF t m) g
      have hl3 := rowU_len t.nodes.length (fun m => parF t m) (i + 1)
      have hl4 := rowU_len t.nodes.length (fun m => symF t m) (i + 1)
      have hgp : ∀ p : Nat, p < i → (rowU t.nodes.length (fun m => symF t m) (i + 1))[p]? = some (.int .i64 (symF t p)) := fun p hp => rowU_get (by omega) (by omega)
      generalize rowU t.nodes.length (fun m => parF t m) i = R1 at *
      generalize hE1 : rowU t.nodes.length (fun m => parF t m) (i + 1) = R1' at *
      generalize rowU t.nodes.length (fun m => symF t m) i = R2 at *
      generalize hE2 : rowU t.nodes.length (fun m => symF t m) (i + 1) = R2' at *
      by_cases c : symF t i < 0
      · have hany : (ordL t).any (fun i => decide (symF t i < 0)) = true := List.any_eq_true.2 ⟨(i : Int), (ordL_perm t).mem_iff.2 (mem_idL.2 ⟨i, by omega, rfl⟩), decide_eq_true c⟩
        rw [if_pos hany] at hX
        subst hX
        rw [if_neg (show ¬ (false = true) by decide)]
        (repeat' (with_reducible first | refine Nx.go ?_ | refine rP ?_ | fail) <;> try (simp (maxSteps := 1000000) (disch := first | exact dq | fail) only [go_sem, g1, decide_true]))
        all_goals (try omega)
        ((with_reducible first | apply left_callf | apply leftD_callf | apply leftF_callf); (· with_reducible rfl); (· (simp (maxSteps := 1000000) (disch := first | exact dq | fail) only [go_sem]) <;> rfl); (· exact hP i); try (simp (maxSteps := 1000000) (disch := first | exact dq | fail) only [go_sem]))
        (repeat' (first | refine Nx.go ?_ | fail) <;> try (simp (maxSteps := 1000000) (disch := first | exact dq | fail) only [go_sem]))
        ((with_reducible first | apply left_callf | apply leftD_callf | apply leftF_callf); (· with_reducible rfl); (· (simp (maxSteps := 1000000) (disch := first | exact dq | fail) only [go_sem]) <;> rfl); (· exact hS i); try (simp (maxSteps := 1000000) (disch := first | exact dq | fail) only [go_sem]))
        (repeat' (with_reducible first | refine Nx.go ?_ | refine And.intro ?_ ?_ | fail) <;> try (simp (maxSteps := 1000000) (disch := first | exact dq | fail) only [go_sem, hl1, hl2, ho1, ho2, hs1, hs2, hg2, hl4, eq_true c, decide_true]))
        all_goals (try omega)
        exact sq_rw0 _
      · have hno' : ∀ q : Nat, q < i + 1 → 0 ≤ symF t q := fun q hq => by
          by_cases e : q = i
          · subst e; omega
          · exact hno q (by omega)
        have fin : ∀ u : Nat, u = sltF t i → (rowF Z (fun m => ((cntF t i m : Nat) : Int))).set u (.int .i64 ((cntF t i u : Int) + 1)) = rowF Z (fun m => ((cntF t (i + 1) m : Nat) : Int)) := fun u hu => by
          rw [rowF_set]
          refine rowF_congr (fun m hm => ?_)
          rw [cntF_succ]
          by_cases e : m = u
          · subst e; rw [if_pos rfl, if_pos hu.symm]; omega
          · rw [if_neg e, if_neg (fun h => e (by omega))]; rfl
        have hlu := rowF_len Z (fun m => ((cntF t i m : Nat) : Int))
        have hsli := hsl i
        have hul := hlu
        obtain ⟨u, hu, hg3, hcl, hfin⟩ : ∃ u, sltF t i = u ∧ (rowF Z (fun m => ((cntF t i m : Nat) : Int)))[u]? = some (.int .i64 ((cntF t i u : Nat) : Int)) ∧ cntF t i u ≤ i ∧ (rowF Z (fun m => ((cntF t i m : Nat) : Int))).set u (.int .i64 ((cntF t i u : Int) + 1)) = rowF Z (fun m => ((cntF t (i + 1) m : Nat) : Int)) :=
          ⟨_, rfl, rowF_get _ (by omega), cntF_le t i _, fin _ rfl⟩
        have hK := findK_int0 (parF t i) K
        obtain ⟨K', V', hLM', hup⟩ : ∃ K' V', LastM t (i + 1) K' V' ∧ updM (.int .i64 (parF t i)) (.iv (.int .i64 i)) (K.map (IV.int .i64)) (V.map (fun v => AV.iv (.int .i64 v))) (fdx (parF t i) K) = .map true (K'.map (IV.int .i64)) (V'.map (fun v => AV.iv (.int .i64 v))) := by
          cases hf : fdx (parF t i) K with
          | none => exact ⟨_, _, hLM.new hf, by unfold updM; rw [List.map_append, List.map_append]; rfl⟩
          | some q => exact ⟨_, _, hLM.old hf, by unfold updM; rw [List.map_set]⟩
        generalize fdx (parF t i) K = fk at *
        generalize rowF Z (fun m => ((cntF t i m : Nat) : Int)) = R3 at *
        generalize hE3 : rowF Z (fun m => ((cntF t (i + 1) m : Nat) : Int)) = R3' at *
        by_cases cp : 0 ≤ parF t i
        · obtain ⟨p, hp⟩ : ∃ p : Nat, parF t i = p := ⟨(parF t i).toNat, by omega⟩
          have hpi : p < i := by rcases parF_cases t i with h | h <;> omega
          have hgp' := hgp p hpi
          have b1 := symF_le t p
          have b2 := hno p hpi
          have hu2 : symF t p + 1 = (u : Int) := by rw [← hu]; unfold sltF; rw [if_pos cp, hp]; omega
          have cp1 : ((p : Int) ≥ 0) = True := eq_true (by omega)
          have hPi := hP i
          rw [hp] at hPi hs1 hg1 hK hup
          (repeat' (with_reducible first | refine Nx.go ?_ | refine rP ?_ | fail) <;> try (simp (maxSteps := 1000000) (disch := first | exact dq | fail) only [go_sem, g1, decide_true]))
          all_goals (try omega)
          ((with_reducible first | apply left_callf | apply leftD_callf | apply leftF_callf); (· with_reducible rfl); (· (simp (maxSteps := 1000000) (disch := first | exact dq | fail) only [go_sem]) <;> rfl); (· exact hPi); try (simp (maxSteps := 1000000) (disch := first | exact dq | fail) only [go_sem]))
          (repeat' (first | refine Nx.go ?_ | fail) <;> try (simp (maxSteps := 1000000) (disch := first | exact dq | fail) only [go_sem]))
          ((with_reducible first | apply left_callf | apply leftD_callf | apply leftF_callf); (· with_reducible rfl); (· (simp (maxSteps := 1000000) (disch := first | exact dq | fail) only [go_sem]) <;> rfl); (· exact hS i); try (simp (maxSteps := 1000000) (disch := first | exact dq | fail) only [go_sem]))
          (repeat' (with_reducible first | refine Nx.go ?_ | refine And.intro ?_ ?_ | fail) <;> try (simp (maxSteps := 1000000) (disch := first | exact dq | fail) only [go_sem, hl1, hl2, ho1, ho2, hs1, hs2, hg1, hg2, hl3, hl4, eq_false c, decide_false, hK, hup, cp1, decide_true, hgp', hu2, hul, hg3, hfin]))
          all_goals (try omega)
          refine ⟨(i + 1, K', V'), ⟨by dsimp only; omega, hLM', hno'⟩, wk_by [0, 1, 2, 3, 4, 5] ?_, by dsimp only; omega⟩
          (simp (maxSteps := 1000000) (disch := first | exact dq | fail) only [go_sem, hE1, hE2, hE3, rens_ints])
          exact congrArg (fun o => some (MO.obj o)) hup
        · have cp1 : (parF t i ≥ 0) = False := eq_false (by omega)
          have hu2 : u = 0 := by rw [← hu]; unfold sltF; rw [if_neg cp]
          subst hu2
          (repeat' (with_reducible first | refine Nx.go ?_ | refine rP ?_ | fail) <;> try (simp (maxSteps := 1000000) (disch := first | exact dq | fail) only [go_sem, g1, decide_true]))
          all_goals (try omega)
          ((with_reducible first | apply left_callf | apply leftD_callf | apply leftF_callf); (· with_reducible rfl); (· (simp (maxSteps := 1000000) (disch := first | exact dq | fail) only [go_sem]) <;> rfl); (· exact hP i); try (simp (maxSteps := 1000000) (disch := first | exact dq | fail) only [go_sem]))
          (repeat' (first | refine Nx.go ?_ | fail) <;> try (simp (maxSteps := 1000000) (disch := first | exact dq | fail) only [go_sem]))
          ((with_reducible first | apply left_callf | apply leftD_callf | apply leftF_callf); (· with_reducible rfl); (· (simp (maxSteps := 1000000) (disch := first | exact dq | fail) only [go_sem]) <;> rfl); (· exact hS i); try (simp (maxSteps := 1000000) (disch := first | exact dq | fail) only [go_sem]))
          (repeat' (with_reducible first | refine Nx.go ?_ | refine And.intro ?_ ?_ | fail) <;> try (simp (maxSteps := 1000000) (disch := first | exact dq | fail) only [go_sem, hl1, hl2, ho1, ho2, hs1, hs2, hg1, hg2, hl3, hl4, eq_false c, decide_false, hK, hup, cp1, hul, hg3, hfin]))
          all_goals (try omega)
          refine ⟨(i + 1, K', V'), ⟨by dsimp only; omega, hLM', hno'⟩, wk_by [0, 1, 2, 3, 4, 5] ?_, by dsimp only; omega⟩
          (simp (maxSteps := 1000000) (disch := first | exact dq | fail) only [go_sem, hE1, hE2, hE3, rens_ints])
          exact congrArg (fun o => some (MO.obj o)) hup
    · obtain rfl : i = t.nodes.length := by omega
      have g1 : ¬ (t.nodes.length : Int) < t.nodes.length := by omega
      rw [rowU_all, rowU_all]
      (repeat' (first | refine Nx.go ?_ | fail) <;> try (simp (maxSteps := 1000000) (disch := first | exact dq | fail) only [go_sem, g1, decide_false]))
      all_goals (try omega)
      refine ⟨(K, V), ⟨hLM, hno⟩, wk_by [0, 1, 2, 3, 4, 5] ?_⟩
      (simp (maxSteps := 1000000) (disch := first | exact dq | fail) only [go_sem, rens_ints])
  · rintro ⟨K, V⟩ ⟨hLM, hno⟩
    dsimp only at hLM hno
    have hany : ¬ (ordL t).any (fun i => decide (symF t i < 0)) = true := by
      rw [List.any_eq_true]
      rintro ⟨x, hx, h⟩
      obtain ⟨q, h1, rfl⟩ := mem_idL.1 ((ordL_perm t).mem_iff.1 hx)
      have := hno q h1
      rw [decide_eq_true_eq] at h
      omega
    rw [if_neg hany] at hX
    subst hX
    (simp (maxSteps := 1000000) (disch := first | exact dq | fail) only [go_sem])
    (repeat' (first | refine Nx.go ?_ | fail) <;> try (simp (maxSteps := 1000000) (disch := first | exact dq | fail) only [go_sem]))
    all_goals (try omega)
    refine aw_loop (α := Nat) (fun k => ⟨143, sl [(1, .mp 0 0), (2, .mp 1 0), (4, .iv (.int .i64 t.nodes.length)), (5, .iv (.int .i64 z)), (6, .mr 2), (7, .msl 3 0 t.nodes.length t.nodes.length), (8, .msl 4 0 t.nodes.length t.nodes.length), (9, .msl 5 0 Z Z), (79, .iv (.int .i64 z)), (80, .iv (.int .i64 k))], [.var 25 [.iv (.sl 1 (t.names.map fun s => IV.str (bs s))), .iv (.sl 4 (t.nodes.map ndV))], .var 31 [.nilsl, .nilsl, .nilsl, .nilsl, .nilsl], .obj (.map true (K.map (IV.int .i64)) (V.map (fun v => AV.iv (.int .i64 v)))), .row true 3 1 (rowF t.nodes.length (fun m => parF t m)), .row true 3 1 (rowF t.nodes.length (fun m => symF t m)), .row true 3 1 (rowF Z (fun m => if m ≤ k then ((begN t m t.nodes.length : Nat) : Int) else ((cntF t t.nodes.length m : Nat) : Int)))], 0⟩)
      (fun k => k ≤ z) (fun k => z - k) 0 (wk_by [0, 1, 2, 3, 4, 5] ?_) (Nat.zero_le _) ?_
    · (simp (maxSteps := 1000000) (disch := first | exact dq | fail) only [go_sem, rens_ints])
      refine congrArg (fun l => some (MO.row true _ _ l)) (rowF_congr (fun m hm => ?_))
      by_cases e : m = 0
      · subst e; rw [if_pos (Nat.le_refl _), beg_zero]
      · rw [if_neg (by omega)]
    rintro k hk
    have hlu := rowF_len Z (fun m => if m ≤ k then ((begN t m t.nodes.length : Nat) : Int) else ((cntF t t.nodes.length m : Nat) : Int))
    by_cases g : k < z
    · have g1 : (k : Int) < z := by omega
      have hg1 : (rowF Z (fun m => if m ≤ k then ((begN t m t.nodes.length : Nat) : Int) else ((cntF t t.nodes.length m : Nat) : Int)))[k]? = some (.int .i64 (begN t k t.nodes.length : Nat)) := by
        rw [rowF_get _ (by omega), if_pos (Nat.le_refl _)]
      have hg2 : (rowF Z (fun m => if m ≤ k then ((begN t m t.nodes.length : Nat) : Int) else ((cntF t t.nodes.length m : Nat) : Int)))[k + 1]? = some (.int .i64 (cntF t t.nodes.length (k + 1) : Nat)) := by
        rw [rowF_get _ (by omega), if_neg (by omega)]
      have hset : (rowF Z (fun m => if m ≤ k then ((begN t m t.nodes.length : Nat) : Int) else ((cntF t t.nodes.length m : Nat) : Int))).set (k + 1) (.int .i64 (((cntF t t.nodes.length (k + 1) : Nat) : Int) + ((begN t k t.nodes.length : Nat) : Int)))
          = rowF Z (fun m => if m ≤ k + 1 then ((begN t m t.nodes.length : Nat) : Int) else ((cntF t t.nodes.length m : Nat) : Int)) := by
        rw [rowF_set]
        refine rowF_congr (fun m hm => ?_)
        by_cases e : m = k + 1
        · subst e; rw [if_pos rfl, if_pos (Nat.le_refl _), beg_next]; omega
        · rw [if_neg e]
          by_cases h2 : m ≤ k
          · rw [if_pos h2, if_pos (by omega)]
          · rw [if_neg h2, if_neg (by omega)]
      have b1 := begN_le t k t.nodes.length
      have b2 := cntF_le t t.nodes.length (k + 1)
      generalize rowF Z (fun m => if m ≤ k then ((begN t m t.nodes.length : Nat) : Int) else ((cntF t t.nodes.length m : Nat) : Int)) = R3 at *
      generalize hE3 : rowF Z (fun m => if m ≤ k + 1 then ((begN t m t.nodes.length : Nat) : Int) else ((cntF t t.nodes.length m : Nat) : Int)) = R3' at *
      have hk1 : ((k : Int) + 1).toNat = k + 1 := by omega
      (repeat' (with_reducible first | refine Nx.go ?_ | refine rP ?_ | refine And.intro ?_ ?_ | fail) <;> try (simp (maxSteps := 1000000) (disch := first | exact dq | fail) only [go_sem, g1, decide_true, hlu, hg1, hg2, hk1, hset]))
      all_goals (try omega)
      refine ⟨k + 1, by omega, wk_by [0, 1, 2, 3, 4, 5] ?_, by omega⟩
      (simp (maxSteps := 1000000) (disch := first | exact dq | fail) only [go_sem, hE3, rens_ints])
    · obtain rfl : k = z := by omega
      have g1 : ¬ (k : Int) < k := by omega
      have hB : rowF Z (fun m => if m ≤ k then ((begN t m t.nodes.length : Nat) : Int) else ((cntF t t.nodes.length m : Nat) : Int)) = ((List.range Z).map (fun (c : Nat) => begC t c)).map (IV.int .i64) := by
        unfold rowF
        rw [List.map_map]
        refine List.map_congr_left (fun m hm => ?_)
        dsimp only
        rw [if_pos (by have := List.mem_range.1 hm; omega)]; rfl
      rw [hB] at hlu ⊢
      unfold rwV rowsT blsV
      rw [show 2 * t.names.length + 2 = Z by omega]
      have hp1 := rowF_len t.nodes.length (fun m => parF t m)
      have hp2 := rowF_len t.nodes.length (fun m => symF t m)
      have hpg := fun (i : Nat) (h : i < t.nodes.length) => rowF_get (fun m => parF t m) h
      have hsg := fun (i : Nat) (h : i < t.nodes.length) => rowF_get (fun m => symF t m) h
      dsimp only
      rw [List.length_map] at hlu
      generalize (List.range Z).map (fun (c : Nat) => begC t c) = B at *
      have k1 : List.take t.nodes.length (rowF t.nodes.length (fun m => parF t m)) = rowF t.nodes.length (fun m => parF t m) := List.take_of_length_le (by omega)
      have k2 : List.take t.nodes.length (rowF t.nodes.length (fun m => symF t m)) = rowF t.nodes.length (fun m => symF t m) := List.take_of_length_le (by omega)
      have k3 : List.take Z (B.map (IV.int .i64)) = B.map (IV.int .i64) := List.take_of_length_le (by rw [List.length_map]; omega)
      refine aw_wk (wk_frz (i := 7) (y := .sl 1 (rowF t.nodes.length (fun m => parF t m))) (M' := [.var 25 [.iv (.sl 1 (t.names.map fun s => IV.str (bs s))), .iv (.sl 4 (t.nodes.map ndV))], .var 31 [.nilsl, .nilsl, .nilsl, .nilsl, .nilsl], .obj (.map true (K.map (IV.int .i64)) (V.map (fun v => AV.iv (.int .i64 v)))), .row false 3 1 (rowF t.nodes.length (fun m => parF t m)), .row true 3 1 (rowF t.nodes.length (fun m => symF t m)), .row true 3 1 (B.map (IV.int .i64))]) ?_) ?_
      · (simp (maxSteps := 1000000) (disch := first | exact dq | fail) only [go_sem, hp1, k1])
      refine aw_wk (wk_frz (i := 8) (y := .sl 1 (rowF t.nodes.length (fun m => symF t m))) (M' := [.var 25 [.iv (.sl 1 (t.names.map fun s => IV.str (bs s))), .iv (.sl 4 (t.nodes.map ndV))], .var 31 [.nilsl, .nilsl, .nilsl, .nilsl, .nilsl], .obj (.map true (K.map (IV.int .i64)) (V.map (fun v => AV.iv (.int .i64 v)))), .row false 3 1 (rowF t.nodes.length (fun m => parF t m)), .row false 3 1 (rowF t.nodes.length (fun m => symF t m)), .row true 3 1 (B.map (IV.int .i64))]) ?_) ?_
      · (simp (maxSteps := 1000000) (disch := first | exact dq | fail) only [go_sem, hp2, k2])
      refine aw_wk (wk_frz (i := 9) (y := inl B) (M' := [.var 25 [.iv (.sl 1 (t.names.map fun s => IV.str (bs s))), .iv (.sl 4 (t.nodes.map ndV))], .var 31 [.nilsl, .nilsl, .nilsl, .nilsl, .nilsl], .obj (.map true (K.map (IV.int .i64)) (V.map (fun v => AV.iv (.int .i64 v)))), .row false 3 1 (rowF t.nodes.length (fun m => parF t m)), .row false 3 1 (rowF t.nodes.length (fun m => symF t m)), .row false 3 1 (B.map (IV.int .i64))]) ?_) ?_
      · (simp (maxSteps := 1000000) (disch := first | exact dq | fail) only [go_sem, hlu, k3])
      refine aw_wk (s' := ⟨143, sl [(1, .mp 0 0), (2, .mp 1 0), (6, .mr 2), (7, .iv (.sl 1 (rowF t.nodes.length (fun m => parF t m)))), (8, .iv (.sl 1 (rowF t.nodes.length (fun m => symF t m)))), (9, .iv (inl B)), (79, .iv (.int .i64 k)), (80, .iv (.int .i64 k))], [.var 25 [.iv (.sl 1 (t.names.map fun s => IV.str (bs s))), .iv (.sl 4 (t.nodes.map ndV))], .var 31 [.nilsl, .nilsl, .nilsl, .nilsl, .nilsl], .obj (.map true (K.map (IV.int .i64)) (V.map (fun v => AV.iv (.int .i64 v))))], 0⟩) (wk_by [0, 1, 2] ?_) ?_
      · (simp (maxSteps := 1000000) (disch := first | exact dq | fail) only [go_sem, rens_ints])
      generalize rowF t.nodes.length (fun m => parF t m) = PR at *
      generalize rowF t.nodes.length (fun m => symF t m) = SR at *
      (repeat' (first | refine Nx.go ?_ | fail) <;> try (simp (maxSteps := 1000000) (disch := first | exact dq | fail) only [go_sem, g1, decide_false]))
      all_goals (try omega)
      ((with_reducible first | apply left_callf | apply leftD_callf | apply leftF_callf); (· with_reducible rfl); (· (simp (maxSteps := 1000000) (disch := first | exact dq | fail) only [go_sem]) <;> rfl); (· exact hO); try (simp (maxSteps := 1000000) (disch := first | exact dq | fail) only [go_sem]))
      (repeat' (first | refine Nx.go ?_ | fail) <;> try (simp (maxSteps := 1000000) (disch := first | exact dq | fail) only [go_sem]))
      all_goals (try omega)
      refine aw_wk (wk_ownc 4 1 3 1 (T' := 31) (cs := [.iv (inl (ordL t)), .nilsl, .nilsl, .nilsl, .iv (inl B)]) rfl rfl) ?_
      refine aw_wk (wk_ownc 3 1 3 2 (T' := 31) (cs := [.iv (inl (ordL t)), .msl 4 0 0 0, .nilsl, .nilsl, .iv (inl B)]) rfl rfl) ?_
      refine aw_wk (wk_ownc 4 1 3 3 (T' := 31) (cs := [.iv (inl (ordL t)), .msl 4 0 0 0, .msl 5 0 0 0, .nilsl, .iv (inl B)]) rfl rfl) ?_
      generalize ordL t = O at *
      refine aw_loop (α := Nat) (fun q => ⟨143, sl [(2, .mp 1 0), (6, .mr 2), (7, .iv (.sl 1 PR)), (8, .iv (.sl 1 SR)), (13, .mp 3 0), (100, .iv (inl O)), (101, .iv (.int .i64 O.length)), (102, .iv (.int .i64 q))], [.var 25 [.iv (.sl 1 (t.names.map fun s => IV.str (bs s))), .iv (.sl 4 (t.nodes.map ndV))], .var 31 [.nilsl, .nilsl, .nilsl, .nilsl, .nilsl], .obj (.map true (K.map (IV.int .i64)) (V.map (fun v => AV.iv (.int .i64 v)))), .var 31 [.iv (inl O), .msl 4 0 q q, .msl 5 0 q q, .msl 6 0 q q, .iv (inl B)],
          .row true 4 1 (((O.map (lastB t)).take q).map IV.bool), .row true 3 1 (((O.map (symF t)).take q).map (IV.int .i64)), .row true 4 1 (((O.map (leafB t)).take q).map IV.bool)], 0⟩)
        (fun q => q ≤ t.nodes.length) (fun q => t.nodes.length - q) 0 (wk_by [0, 1, 2, 3, 4, 5, 6] ?_) (Nat.zero_le _) ?_
      · (simp (maxSteps := 1000000) (disch := first | exact dq | fail) only [go_sem, rens_ints])
        try exact ⟨rfl, rfl, rfl⟩
      rintro q hq
      by_cases g : q < t.nodes.length
      · have g2 : (q : Int) < O.length := by omega
        obtain ⟨i, hi⟩ : ∃ i : Nat, O.getD q 0 = i := ⟨(O.getD q 0).toNat, by have := hOm (O.getD q 0) (getD_mem (by omega)); omega⟩
        have hil : i < t.nodes.length := by have := hOm (O.getD q 0) (getD_mem (by omega)); omega
        have hg : O[q]? = some (i : Int) := by rw [← hi]; simp [List.getD, List.getElem?_eq_getElem (show q < O.length by omega)]
        have t1 := takeM (lastB t) O hg
        have t2 := takeM (symF t) O hg
        have t3 := takeM (leafB t) O hg
        have l1 : ((O.map (lastB t)).take q).length = q := by rw [List.length_take, List.length_map]; omega
        have l2 : ((O.map (symF t)).take q).length = q := by rw [List.length_take, List.length_map]; omega
        have l3 : ((O.map (leafB t)).take q).length = q := by rw [List.length_take, List.length_map]; omega
        generalize hE1 : (O.map (lastB t)).take q = R1 at *
        generalize hE2 : (O.map (symF t)).take q = R2 at *
        generalize hE3 : (O.map (leafB t)).take q = R3 at *
        have hpi := hpg i hil
        have hsi := hsg i hil
        obtain ⟨q2, j, f1, f2, f3⟩ := hLM.last (i := i) hil
        have hK2 := findK_int0 (parF t i) K
        have hV2 : (V.map (fun v => AV.iv (.int .i64 v)))[q2]? = some (AV.iv (.int .i64 j)) := by rw [List.getElem?_map, f2]; rfl
        rw [f1] at hK2
        rw [f3] at t1
        have hK1 := findK_int0 i K
        have hlf := hLM.leaf i
        have hV1 : ∀ q1, fdx i K = some q1 → ∃ v : Int, (V.map (fun v => AV.iv (.int .i64 v)))[q1]? = some (AV.iv (.int .i64 v)) := fun q1 h => by
          have h1 := lt_of_get (fdx_some h)
          rw [hLM.1] at h1
          exact ⟨V[q1], by rw [List.getElem?_map, List.getElem?_eq_getElem h1]; rfl⟩
        cases hf : fdx i K with
        | none =>
          rw [hf] at hK1 hlf
          rw [hlf] at t3
          (repeat' (with_reducible first | refine Nx.go ?_ | (refine aw_regionD cwF mixed ?_ (dops_runF ?_); (· kernel_rfl)) | refine And.intro ?_ ?_ | fail) <;> try (simp (maxSteps := 1000000) (disch := first | exact dq | fail) only [go_sem, g2, hg, decide_true, hK1, hK2, hV2, hpi, hsi, l1, l2, l3, Bool.not_false, Bool.not_true]))
          all_goals (try omega)
          all_goals (
            refine ⟨q + 1, by omega, wk_by [0, 1, 2, 3, 4, 5, 6] ?_, by omega⟩
            (simp (maxSteps := 1000000) (disch := first | exact dq | fail) only [go_sem, hE1, hE2, hE3, t1, t2, t3, List.map_append, rens_ints])
            try rfl)
        | some q1 =>
          obtain ⟨v, hv⟩ := hV1 q1 hf
          rw [hf] at hK1 hlf
          rw [hlf] at t3
          (repeat' (with_reducible first | refine Nx.go ?_ | (refine aw_regionD cwF mixed ?_ (dops_runF ?_); (· kernel_rfl)) | refine And.intro ?_ ?_ | fail) <;> try (simp (maxSteps := 1000000) (disch := first | exact dq | fail) only [go_sem, g2, hg, decide_true, hK1, hv, hK2, hV2, hpi, hsi, l1, l2, l3, Bool.not_false, Bool.not_true]))
          all_goals (try omega)
          all_goals (
            refine ⟨q + 1, by omega, wk_by [0, 1, 2, 3, 4, 5, 6] ?_, by omega⟩
            (simp (maxSteps := 1000000) (disch := first | exact dq | fail) only [go_sem, hE1, hE2, hE3, t1, t2, t3, List.map_append, rens_ints])
            try rfl)
      · obtain rfl : q = t.nodes.length := by omega
        have g2 : ¬ (t.nodes.length : Int) < O.length := by omega
        have e1 : (O.map (lastB t)).take t.nodes.length = O.map (lastB t) := List.take_of_length_le (by rw [List.length_map]; omega)
        have e2 : (O.map (symF t)).take t.nodes.length = O.map (symF t) := List.take_of_length_le (by rw [List.length_map]; omega)
        have e3 : (O.map (leafB t)).take t.nodes.length = O.map (leafB t) := List.take_of_length_le (by rw [List.length_map]; omega)
        rw [e1, e2, e3]
        have l1 : (O.map (lastB t)).length = t.nodes.length := by rw [List.length_map]; omega
        have l2 : (O.map (symF t)).length = t.nodes.length := by rw [List.length_map]; omega
        have l3 : (O.map (leafB t)).length = t.nodes.length := by rw [List.length_map]; omega
        generalize O.map (lastB t) = RL at *
        generalize O.map (symF t) = RS at *
        generalize O.map (leafB t) = RF at *
        have m1 : List.take t.nodes.length (RL.map IV.bool) = RL.map IV.bool := List.take_of_length_le (by rw [List.length_map]; omega)
        have m2 : List.take t.nodes.length (RS.map (IV.int .i64)) = RS.map (IV.int .i64) := List.take_of_length_le (by rw [List.length_map]; omega)
        have m3 : List.take t.nodes.length (RF.map IV.bool) = RF.map IV.bool := List.take_of_length_le (by rw [List.length_map]; omega)
        (repeat' (first | refine Nx.go ?_ | fail) <;> try (simp (maxSteps := 1000000) (disch := first | exact dq | fail) only [go_sem, g2, decide_false, m1, m2, m3, l1, l2, l3, Nat.le_refl, if_true]))
        all_goals (try omega)
        all_goals (first | exact ⟨_, rfl, Sq.refl _⟩ | exact Sq.refl _)
end Go.Proofs.Ytnijpeeehnnipaa.AM
