
/- Chapter 5: the laws ShapedFree and ShapedWhole. Any numbers. -/
import Derived.Test.YtpjncojljamacaaZT
set_option linter.unusedVariables false
set_option linter.unusedSimpArgs false
set_option maxRecDepth 20000
namespace Go.Proofs.Ytpjncojljamacaa.AM
open Go Go.RowKit

def ctC (m : Nat) (l : List Int) : List Int := (l.take m).map (fun x => x % 1024)
theorem ctC_len (m : Nat) (l : List Int) : (ctC m l).length = min m l.length := by unfold ctC; rw [List.length_map, List.length_take]
theorem ctC_at {m : Nat} {l : List Int} {i : Nat} (h : i < (ctC m l).length) : (ctC m l).getD i 0 = l.getD i 0 % 1024 := by
  rw [ctC_len] at h
  unfold ctC
  simp [List.getD, List.getElem?_take, show i < m by omega, List.getElem?_eq_getElem (show i < l.length by omega)]
theorem many_pos (counts : List Int) : manyC counts = (posD counts counts.length).length := by
  unfold manyC hps0 posD; rw [List.length_map]
theorem code_ne (counts : List Int) (c : Nat) : cdB ((kdsL counts).getD c []) = [] ↔ ¬ (c ∈ cntS counts ∧ 2 ≤ manyC counts) := by
  constructor
  · intro h g
    have h1 := kd_len g.1 g.2
    have h2 := congrArg List.length h
    rw [cdB_len] at h2
    have h3 : ((kdsL counts).getD c []).length = 0 := h2
    omega
  · intro g; rw [kd_none g]; rfl
theorem kd_get (counts : List Int) (c : Nat) (h : c < counts.length) : (strR (kdsL counts))[c]? = some (.str (bs (cdB ((kdsL counts).getD c [])))) := by
  have hlt : c < (kdsL counts).length := by rw [kds_len]; exact h
  unfold strR
  rw [List.getElem?_map, List.getD, List.getElem?_eq_getElem hlt]; rfl

set_option maxHeartbeats 4000000 in
theorem ShapedFree_spec (l : List Int) : PCalls Try.prog 3 [inl l] (.bool true) := by
  have q : ∀ z : Int, bitI .and .i64 z 1023 = z % 1024 := fun z => and_maskS z 1024 10 (by decide) (by decide)
  have hml := ctC_len 30 l
  have hma := fun i => @ctC_at 30 l i
  have hmp := many_pos (ctC 30 l)
  have hmr : ∀ i, i < (ctC 30 l).length → 0 ≤ (ctC 30 l).getD i 0 ∧ (ctC 30 l).getD i 0 ≤ 1023 := fun i hi => by rw [ctC_at hi]; omega
  generalize ctC 30 l = m at *
  have hCo := Codes_spec m (by omega)
  unfold cdV at hCo
  have hkl : (strR (kdsL m)).length = m.length := by rw [strR_len, kds_len]
  have htk : (m.map (IV.int .i64)).take m.length = m.map (IV.int .i64) := List.take_of_length_le (by rw [List.length_map]; omega)
  have hkg := fun c h => kd_get m c h
  refine PCalls.of_aw Try.func3 rfl (by unfold Callable; kernel_rfl) (by kernel_rfl) (by simp [Try.ntmps3]) ?_; rw [Try.ntmps3, Try.results3]; (simp (maxSteps := 1000000) (disch := first | exact dq | fail) only [go_sem])
  (repeat' first
  | ((with_reducible first | refine Nx.go ?_ | refine rP ?_ | refine rR ?_ | refine And.intro ?_ ?_ | fail) <;> try (simp (maxSteps := 1000000) (disch := first | exact dq | fail) only [go_sem]))
  | ((with_reducible refine Sp.go ?_ ?_) <;> intro h <;> (try (simp (maxSteps := 1000000) (disch := first | exact dq | fail) only [go_sem] at h)) <;> try (simp (maxSteps := 1000000) (disch := first | exact dq | fail) only [go_sem, h])) | fail)
  ((with_reducible first | apply left_callf | apply leftD_callf | apply leftF_callf); (· with_reducible rfl); (· (simp (maxSteps := 1000000) (disch := first | exact dq | fail) only [go_sem]) <;> rfl); (· exact awake5_spec); try (simp (maxSteps := 1000000) (disch := first | exact dq | fail) only [go_sem]))
  ((with_reducible refine aw_seq ?_); (with_reducible refine aw_region (aops_run ?_)); try (simp (maxSteps := 1000000) (disch := first | exact dq | fail) only [go_sem]))
  ((with_reducible refine aw_seq ?_); (with_reducible refine aw_region (aops_run ?_)); try (simp (maxSteps := 1000000) (disch := first | exact dq | fail) only [go_sem]))
  refine aw_cut ⟨141, sl [(3, .iv (.bool true)), (4, .msl 0 0 m.length m.length), (5, .iv (.int .i64 (manyC m)))], [.row true 3 1 (m.map (IV.int .i64))], 0⟩ ?_ ?_
  · (repeat' first
  | ((with_reducible first | refine Nx.go ?_ | refine rP ?_ | refine rR ?_ | refine And.intro ?_ ?_ | fail) <;> try (simp (maxSteps := 1000000) (disch := first | exact dq | fail) only [go_sem]))
  | ((with_reducible refine Sp.go ?_ ?_) <;> intro h <;> (try (simp (maxSteps := 1000000) (disch := first | exact dq | fail) only [go_sem] at h)) <;> try (simp (maxSteps := 1000000) (disch := first | exact dq | fail) only [go_sem, h])) | fail)
    refine aw_loop (α := Nat) (fun i => ⟨141, sl [(0, .iv (inl l)), (3, .iv (.bool true)), (4, .msl 0 0 i i), (5, .iv (.int .i64 (posD m i).length)), (6, .iv (.int .i64 i))], [.row true 3 1 ((m.take i).map (IV.int .i64))], 0⟩)
      (fun i => i ≤ m.length) (fun i => m.length - i) 0 (wk_by [0] ?_) (Nat.zero_le _) ?_
    · (simp (maxSteps := 1000000) (disch := first | exact dq | fail) only [go_sem])
      rfl
    rintro i hi
    have htl : (m.take i).length = i := by rw [List.length_take]; omega
    have hpl := posD_len m i
    by_cases h : i < m.length
    · have c1 : (i : Int) < l.length := by omega
      have c2 : (i : Int) < 30 := by omega
      have ht := take_snoc m h
      have hx := hma i h
      have hps := posD_succ m i
      rw [hx] at ht hps
      by_cases g : 0 < l.getD i 0 % 1024
      · rw [if_pos g] at hps
        (repeat' first
  | ((with_reducible first | refine Nx.go ?_ | refine rP ?_ | refine rR ?_ | refine And.intro ?_ ?_ | fail) <;> try (simp (maxSteps := 1000000) (disch := first | exact dq | fail) only [go_sem, htl, q, c1, c2, g, decide_true]))
  | ((with_reducible refine Sp.go ?_ ?_) <;> intro h <;> (try (simp (maxSteps := 1000000) (disch := first | exact dq | fail) only [go_sem] at h)) <;> try (simp (maxSteps := 1000000) (disch := first | exact dq | fail) only [go_sem, h, htl, q, c1, c2, g, decide_true])) | fail)
        all_goals (try omega)
        refine ⟨i + 1, by omega, wk_by [0] ?_, by omega⟩
        (simp (maxSteps := 1000000) (disch := first | exact dq | fail) only [go_sem, ht, hps, List.map_append, List.length_append, List.length_cons, List.length_nil, Int.natCast_add])
        try rfl
      · rw [if_neg g, List.append_nil] at hps
        (repeat' first
  | ((with_reducible first | refine Nx.go ?_ | refine rP ?_ | refine rR ?_ | refine And.intro ?_ ?_ | fail) <;> try (simp (maxSteps := 1000000) (disch := first | exact dq | fail) only [go_sem, htl, q, c1, c2, g, decide_true, decide_false]))
  | ((with_reducible refine Sp.go ?_ ?_) <;> intro h <;> (try (simp (maxSteps := 1000000) (disch := first | exact dq | fail) only [go_sem] at h)) <;> try (simp (maxSteps := 1000000) (disch := first | exact dq | fail) only [go_sem, h, htl, q, c1, c2, g, decide_true, decide_false])) | fail)
        all_goals (try omega)
        refine ⟨i + 1, by omega, wk_by [0] ?_, by omega⟩
        (simp (maxSteps := 1000000) (disch := first | exact dq | fail) only [go_sem, ht, hps, List.map_append])
    · have e : m.take i = m := List.take_of_length_le (by omega)
      obtain rfl : i = m.length := by omega
      rw [e, ← hmp]
      by_cases c1 : m.length < l.length
      · have c1' : (m.length : Int) < l.length := by omega
        have c2 : ¬ ((m.length : Int) < 30) := by omega
        (repeat' first
  | ((with_reducible first | refine Nx.go ?_ | refine rP ?_ | refine rR ?_ | refine And.intro ?_ ?_ | fail) <;> try (simp (maxSteps := 1000000) (disch := first | exact dq | fail) only [go_sem, c1', c2, decide_true, decide_false]))
  | ((with_reducible refine Sp.go ?_ ?_) <;> intro h <;> (try (simp (maxSteps := 1000000) (disch := first | exact dq | fail) only [go_sem] at h)) <;> try (simp (maxSteps := 1000000) (disch := first | exact dq | fail) only [go_sem, h, c1', c2, decide_true, decide_false])) | fail)
        all_goals (try omega)
        refine wk_by [0] ?_
        (simp (maxSteps := 1000000) (disch := first | exact dq | fail) only [go_sem])
      · have c1' : ¬ ((m.length : Int) < l.length) := by omega
        (repeat' first
  | ((with_reducible first | refine Nx.go ?_ | refine rP ?_ | refine rR ?_ | refine And.intro ?_ ?_ | fail) <;> try (simp (maxSteps := 1000000) (disch := first | exact dq | fail) only [go_sem, c1', decide_true, decide_false]))
  | ((with_reducible refine Sp.go ?_ ?_) <;> intro h <;> (try (simp (maxSteps := 1000000) (disch := first | exact dq | fail) only [go_sem] at h)) <;> try (simp (maxSteps := 1000000) (disch := first | exact dq | fail) only [go_sem, h, c1', decide_true, decide_false])) | fail)
        all_goals (try omega)
        refine wk_by [0] ?_
        (simp (maxSteps := 1000000) (disch := first | exact dq | fail) only [go_sem])
  (repeat' first
  | ((with_reducible first | refine Nx.go ?_ | refine rP ?_ | refine rR ?_ | refine And.intro ?_ ?_ | fail) <;> try (simp (maxSteps := 1000000) (disch := first | exact dq | fail) only [go_sem]))
  | ((with_reducible refine Sp.go ?_ ?_) <;> intro h <;> (try (simp (maxSteps := 1000000) (disch := first | exact dq | fail) only [go_sem] at h)) <;> try (simp (maxSteps := 1000000) (disch := first | exact dq | fail) only [go_sem, h])) | fail)
  (with_reducible apply left_callfF)
  · with_reducible rfl
  · (simp (maxSteps := 1000000) (disch := first | exact dq | fail) only [go_sem, htk])
    rfl
  · exact hCo
  (simp (maxSteps := 1000000) (disch := first | exact dq | fail) only [go_sem])
  (repeat' first
  | ((with_reducible first | refine Nx.go ?_ | refine rP ?_ | refine rR ?_ | refine And.intro ?_ ?_ | fail) <;> try (simp (maxSteps := 1000000) (disch := first | exact dq | fail) only [go_sem, hkl]))
  | ((with_reducible refine Sp.go ?_ ?_) <;> intro h <;> (try (simp (maxSteps := 1000000) (disch := first | exact dq | fail) only [go_sem] at h)) <;> try (simp (maxSteps := 1000000) (disch := first | exact dq | fail) only [go_sem, h, hkl])) | fail)
  all_goals (try omega)
  refine aw_loop (α := Nat) (fun i => ⟨141, sl [(3, .iv (.bool true)), (4, .msl 0 0 m.length m.length), (5, .iv (.int .i64 (manyC m))), (8, .iv (.sl 1 (strR (kdsL m)))), (9, .iv (.int .i64 i))], [.row false 3 1 (m.map (IV.int .i64))], 0⟩)
    (fun i => i ≤ m.length) (fun i => m.length - i) 0 (wk_by [0] ?_) (Nat.zero_le _) ?_
  · (simp (maxSteps := 1000000) (disch := first | exact dq | fail) only [go_sem])
  rintro i hi
  by_cases hil : i < m.length
  · have c1 : (i : Int) < m.length := by omega
    have hgi := hkg i hil
    have hne := code_ne m i
    have hci := @cntS_mem m i
    have hmi := hmr i hil
    have hb : ((m.getD i 0 > 0) = True ∧ ((manyC m : Int) > 1) = True ∧ (cdB ((kdsL m).getD i []) = []) = False) ∨ ((m.getD i 0 > 0) = True ∧ ((manyC m : Int) > 1) = False ∧ (cdB ((kdsL m).getD i []) = []) = True) ∨ ((m.getD i 0 > 0) = False ∧ True = True ∧ (cdB ((kdsL m).getD i []) = []) = True) := by
      by_cases g1 : 0 < m.getD i 0
      · by_cases g2 : 2 ≤ manyC m
        · exact .inl ⟨eq_true g1, eq_true (by omega), eq_false (fun e => (hne.1 e) ⟨hci.2 ⟨hil, g1⟩, g2⟩)⟩
        · exact .inr (.inl ⟨eq_true g1, eq_false (by omega), eq_true (hne.2 (fun e => g2 e.2))⟩)
      · exact .inr (.inr ⟨eq_false g1, rfl, eq_true (hne.2 (fun e => g1 (hci.1 e.1).2))⟩)
    have hk1 : ∀ k : Nat, k < m.length → (((i : Int) = (k : Int)) = True ∧ True = True ∧ True = True ∧ True = True) ∨ (((i : Int) = (k : Int)) = False ∧ (m.getD i 0 = 0) = True ∧ True = True ∧ True = True) ∨ (((i : Int) = (k : Int)) = False ∧ (m.getD i 0 = 0) = False ∧ (m.getD k 0 = 0) = True ∧ True = True) ∨
        (((i : Int) = (k : Int)) = False ∧ (m.getD i 0 = 0) = False ∧ (m.getD k 0 = 0) = False ∧ ((manyC m : Int) < 2) = True) ∨ (((i : Int) = (k : Int)) = False ∧ (m.getD i 0 = 0) = False ∧ (m.getD k 0 = 0) = False ∧ ((manyC m : Int) < 2) = False) := by
      intro k hk
      by_cases a1 : (i : Int) = k
      · exact .inl ⟨eq_true a1, rfl, rfl, rfl⟩
      by_cases a2 : m.getD i 0 = 0
      · exact .inr (.inl ⟨eq_false a1, eq_true a2, rfl, rfl⟩)
      by_cases a3 : m.getD k 0 = 0
      · exact .inr (.inr (.inl ⟨eq_false a1, eq_false a2, eq_true a3, rfl⟩))
      by_cases a4 : (manyC m : Int) < 2
      · exact .inr (.inr (.inr (.inl ⟨eq_false a1, eq_false a2, eq_false a3, eq_true a4⟩)))
      · exact .inr (.inr (.inr (.inr ⟨eq_false a1, eq_false a2, eq_false a3, eq_false a4⟩)))
    have hk2 : ∀ k : Nat, k < m.length → ((i : Int) = (k : Int)) = False → (m.getD i 0 = 0) = False → (m.getD k 0 = 0) = False → ((manyC m : Int) < 2) = False →
        ((((cdB ((kdsL m).getD i [])).length : Int) ≤ (cdB ((kdsL m).getD k [])).length) = True ∧ ((cdB ((kdsL m).getD k [])).take (cdB ((kdsL m).getD i [])).length = cdB ((kdsL m).getD i [])) = False ∨ (((cdB ((kdsL m).getD i [])).length : Int) ≤ (cdB ((kdsL m).getD k [])).length) = False ∧ True = True) ∧
        ((m.getD i 0 > m.getD k 0) = True ∧ (((cdB ((kdsL m).getD i [])).length : Int) > (cdB ((kdsL m).getD k [])).length) = False ∨ (m.getD i 0 > m.getD k 0) = False ∧ True = True) := by
      intro k hk a1 a2 a3 a4
      have hmk := hmr k hk
      have h1 : ¬ (i : Int) = k := of_eq_false a1
      have h2 := of_eq_false a2
      have h3 := of_eq_false a3
      have h4 := of_eq_false a4
      have ci : i ∈ cntS m := cntS_mem.2 ⟨hil, by omega⟩
      have ck : k ∈ cntS m := cntS_mem.2 ⟨hk, by omega⟩
      have hfree := kd_free ci ck (by omega)
      have li := kd_len ci (by omega)
      have lk := kd_len ck (by omega)
      refine ⟨?_, ?_⟩
      · by_cases e : ((cdB ((kdsL m).getD i [])).length : Int) ≤ (cdB ((kdsL m).getD k [])).length
        · refine .inl ⟨eq_true e, eq_false (fun g => hfree ?_)⟩
          rw [cdB_len, cdB_take] at g
          rw [← cdB_inj g]
          exact List.take_prefix _ _
        · exact .inr ⟨eq_false e, rfl⟩
      · by_cases e : m.getD i 0 > m.getD k 0
        · refine .inl ⟨eq_true e, eq_false ?_⟩
          have := dp_more m ci ck (by unfold mstW; omega) e
          rw [cdB_len, cdB_len, li.1, lk.1]
          omega
        · exact .inr ⟨eq_false e, rfl⟩
    generalize hKi : cdB ((kdsL m).getD i []) = Ki at *
    rcases hb with ⟨b1, b2, b3⟩ | ⟨b1, b2, b3⟩ | ⟨b1, b2, b3⟩
    all_goals
      (repeat' first
  | ((with_reducible first | refine Nx.go ?_ | refine rP ?_ | refine rR ?_ | refine And.intro ?_ ?_ | fail) <;> try (simp (maxSteps := 1000000) (disch := first | exact dq | fail) only [go_sem, c1, hgi, hkl, b1, b2, b3, decide_true, decide_false]))
  | ((with_reducible refine Sp.go ?_ ?_) <;> intro h <;> (try (simp (maxSteps := 1000000) (disch := first | exact dq | fail) only [go_sem] at h)) <;> try (simp (maxSteps := 1000000) (disch := first | exact dq | fail) only [go_sem, h, c1, hgi, hkl, b1, b2, b3, decide_true, decide_false])) | fail)
      all_goals (try omega)
      refine aw_loop (α := Nat) (fun k => ⟨141, sl [(3, .iv (.bool true)), (4, .msl 0 0 m.length m.length), (5, .iv (.int .i64 (manyC m))), (8, .iv (.sl 1 (strR (kdsL m)))), (9, .iv (.int .i64 i)), (10, .iv (.int .i64 k))], [.row false 3 1 (m.map (IV.int .i64))], 0⟩)
        (fun k => k ≤ m.length) (fun k => m.length - k) 0 (wk_by [0] ?_) (Nat.zero_le _) ?_
      · (simp (maxSteps := 1000000) (disch := first | exact dq | fail) only [go_sem])
      rintro k hk
      by_cases hkm : k < m.length
      · have e1 : (k : Int) < m.length := by omega
        have hgk := hkg k hkm
        rcases hk1 k hkm with ⟨d1, d2, d3, d4⟩ | ⟨d1, d2, d3, d4⟩ | ⟨d1, d2, d3, d4⟩ | ⟨d1, d2, d3, d4⟩ | ⟨d1, d2, d3, d4⟩
        · (repeat' first
  | ((with_reducible first | refine Nx.go ?_ | refine rP ?_ | refine rR ?_ | refine And.intro ?_ ?_ | fail) <;> try (simp (maxSteps := 1000000) (disch := first | exact dq | fail) only [go_sem, e1, d1, decide_true, decide_false]))
  | ((with_reducible refine Sp.go ?_ ?_) <;> intro h <;> (try (simp (maxSteps := 1000000) (disch := first | exact dq | fail) only [go_sem] at h)) <;> try (simp (maxSteps := 1000000) (disch := first | exact dq | fail) only [go_sem, h, e1, d1, decide_true, decide_false])) | fail)
          all_goals (try omega)
          refine ⟨k + 1, by omega, wk_by [0] ?_, by omega⟩
          (simp (maxSteps := 1000000) (disch := first | exact dq | fail) only [go_sem])
        · (repeat' first
  | ((with_reducible first | refine Nx.go ?_ | refine rP ?_ | refine rR ?_ | refine And.intro ?_ ?_ | fail) <;> try (simp (maxSteps := 1000000) (disch := first | exact dq | fail) only [go_sem, e1, d1, d2, decide_true, decide_false]))
  | ((with_reducible refine Sp.go ?_ ?_) <;> intro h <;> (try (simp (maxSteps := 1000000) (disch := first | exact dq | fail) only [go_sem] at h)) <;> try (simp (maxSteps := 1000000) (disch := first | exact dq | fail) only [go_sem, h, e1, d1, d2, decide_true, decide_false])) | fail)
          all_goals (try omega)
          refine ⟨k + 1, by omega, wk_by [0] ?_, by omega⟩
          (simp (maxSteps := 1000000) (disch := first | exact dq | fail) only [go_sem])
        · (repeat' first
  | ((with_reducible first | refine Nx.go ?_ | refine rP ?_ | refine rR ?_ | refine And.intro ?_ ?_ | fail) <;> try (simp (maxSteps := 1000000) (disch := first | exact dq | fail) only [go_sem, e1, d1, d2, d3, decide_true, decide_false]))
  | ((with_reducible refine Sp.go ?_ ?_) <;> intro h <;> (try (simp (maxSteps := 1000000) (disch := first | exact dq | fail) only [go_sem] at h)) <;> try (simp (maxSteps := 1000000) (disch := first | exact dq | fail) only [go_sem, h, e1, d1, d2, d3, decide_true, decide_false])) | fail)
          all_goals (try omega)
          refine ⟨k + 1, by omega, wk_by [0] ?_, by omega⟩
          (simp (maxSteps := 1000000) (disch := first | exact dq | fail) only [go_sem])
        · (repeat' first
  | ((with_reducible first | refine Nx.go ?_ | refine rP ?_ | refine rR ?_ | refine And.intro ?_ ?_ | fail) <;> try (simp (maxSteps := 1000000) (disch := first | exact dq | fail) only [go_sem, e1, d1, d2, d3, d4, decide_true, decide_false]))
  | ((with_reducible refine Sp.go ?_ ?_) <;> intro h <;> (try (simp (maxSteps := 1000000) (disch := first | exact dq | fail) only [go_sem] at h)) <;> try (simp (maxSteps := 1000000) (disch := first | exact dq | fail) only [go_sem, h, e1, d1, d2, d3, d4, decide_true, decide_false])) | fail)
          all_goals (try omega)
          refine ⟨k + 1, by omega, wk_by [0] ?_, by omega⟩
          (simp (maxSteps := 1000000) (disch := first | exact dq | fail) only [go_sem])
        · obtain ⟨f1, f2⟩ := hk2 k hkm d1 d2 d3 d4
          rcases f1 with ⟨f1, f3⟩ | ⟨f1, f3⟩
          · rcases f2 with ⟨f2, f4⟩ | ⟨f2, f4⟩
            all_goals
              (repeat' first
  | ((with_reducible first | refine Nx.go ?_ | refine rP ?_ | refine rR ?_ | refine And.intro ?_ ?_ | fail) <;> try (simp (maxSteps := 1000000) (disch := first | exact dq | fail) only [go_sem, e1, d1, d2, d3, d4, hgi, hgk, hkl, f1, f2, f3, f4, decide_true, decide_false]))
  | ((with_reducible refine Sp.go ?_ ?_) <;> intro h <;> (try (simp (maxSteps := 1000000) (disch := first | exact dq | fail) only [go_sem] at h)) <;> try (simp (maxSteps := 1000000) (disch := first | exact dq | fail) only [go_sem, h, e1, d1, d2, d3, d4, hgi, hgk, hkl, f1, f2, f3, f4, decide_true, decide_false])) | fail)
              all_goals (try omega)
              refine ⟨k + 1, by omega, wk_by [0] ?_, by omega⟩
              (simp (maxSteps := 1000000) (disch := first | exact dq | fail) only [go_sem])
          · rcases f2 with ⟨f2, f4⟩ | ⟨f2, f4⟩
            all_goals
              (repeat' first
  | ((with_reducible first | refine Nx.go ?_ | refine rP ?_ | refine rR ?_ | refine And.intro ?_ ?_ | fail) <;> try (simp (maxSteps := 1000000) (disch := first | exact dq | fail) only [go_sem, e1, d1, d2, d3, d4, hgi, hgk, hkl, f1, f2, f4, decide_true, decide_false]))
  | ((with_reducible refine Sp.go ?_ ?_) <;> intro h <;> (try (simp (maxSteps := 1000000) (disch := first | exact dq | fail) only [go_sem] at h)) <;> try (simp (maxSteps := 1000000) (disch := first | exact dq | fail) only [go_sem, h, e1, d1, d2, d3, d4, hgi, hgk, hkl, f1, f2, f4, decide_true, decide_false])) | fail)
              all_goals (try omega)
              refine ⟨k + 1, by omega, wk_by [0] ?_, by omega⟩
              (simp (maxSteps := 1000000) (disch := first | exact dq | fail) only [go_sem])
      · obtain rfl : k = m.length := by omega
        have e1 : ¬ ((m.length : Int) < m.length) := by omega
        (repeat' first
  | ((with_reducible first | refine Nx.go ?_ | refine rP ?_ | refine rR ?_ | refine And.intro ?_ ?_ | fail) <;> try (simp (maxSteps := 1000000) (disch := first | exact dq | fail) only [go_sem, e1, decide_false]))
  | ((with_reducible refine Sp.go ?_ ?_) <;> intro h <;> (try (simp (maxSteps := 1000000) (disch := first | exact dq | fail) only [go_sem] at h)) <;> try (simp (maxSteps := 1000000) (disch := first | exact dq | fail) only [go_sem, h, e1, decide_false])) | fail)
        all_goals (try omega)
        refine ⟨i + 1, by omega, wk_by [0] ?_, by omega⟩
        (simp (maxSteps := 1000000) (disch := first | exact dq | fail) only [go_sem])
  · obtain rfl : i = m.length := by omega
    have c1 : ¬ ((m.length : Int) < m.length) := by omega
    (repeat' first
  | ((with_reducible first | refine Nx.go ?_ | refine rP ?_ | refine rR ?_ | refine And.intro ?_ ?_ | fail) <;> try (simp (maxSteps := 1000000) (disch := first | exact dq | fail) only [go_sem, c1, decide_false]))
  | ((with_reducible refine Sp.go ?_ ?_) <;> intro h <;> (try (simp (maxSteps := 1000000) (disch := first | exact dq | fail) only [go_sem] at h)) <;> try (simp (maxSteps := 1000000) (disch := first | exact dq | fail) only [go_sem, h, c1, decide_false])) | fail)
    all_goals (try omega)

set_option maxHeartbeats 4000000 in
theorem ShapedWhole_spec (l : List Int) : PCalls Try.prog 4 [inl l] (.bool true) := by
  have q : ∀ z : Int, bitI .and .i64 z 1023 = z % 1024 := fun z => and_maskS z 1024 10 (by decide) (by decide)
  have hml := ctC_len 20 l
  have hma := fun i => @ctC_at 20 l i
  have hmp := many_pos (ctC 20 l)
  have hmr : ∀ i, i < (ctC 20 l).length → 0 ≤ (ctC 20 l).getD i 0 ∧ (ctC 20 l).getD i 0 ≤ 1023 := fun i hi => by rw [ctC_at hi]; omega
  generalize ctC 20 l = m at *
  have hCo := Codes_spec m (by omega)
  unfold cdV at hCo
  have hkl : (strR (kdsL m)).length = m.length := by rw [strR_len, kds_len]
  have htk : (m.map (IV.int .i64)).take m.length = m.map (IV.int .i64) := List.take_of_length_le (by rw [List.length_map]; omega)
  have hkg := fun c h => kd_get m c h
  refine PCalls.of_aw Try.func4 rfl (by unfold Callable; kernel_rfl) (by kernel_rfl) (by simp [Try.ntmps4]) ?_; rw [Try.ntmps4, Try.results4]; (simp (maxSteps := 1000000) (disch := first | exact dq | fail) only [go_sem])
  (repeat' first
  | ((with_reducible first | refine Nx.go ?_ | refine rP ?_ | refine rR ?_ | refine And.intro ?_ ?_ | fail) <;> try (simp (maxSteps := 1000000) (disch := first | exact dq | fail) only [go_sem]))
  | ((with_reducible refine Sp.go ?_ ?_) <;> intro h <;> (try (simp (maxSteps := 1000000) (disch := first | exact dq | fail) only [go_sem] at h)) <;> try (simp (maxSteps := 1000000) (disch := first | exact dq | fail) only [go_sem, h])) | fail)
  ((with_reducible first | apply left_callf | apply leftD_callf | apply leftF_callf); (· with_reducible rfl); (· (simp (maxSteps := 1000000) (disch := first | exact dq | fail) only [go_sem]) <;> rfl); (· exact awake5_spec); try (simp (maxSteps := 1000000) (disch := first | exact dq | fail) only [go_sem]))
  ((with_reducible refine aw_seq ?_); (with_reducible refine aw_region (aops_run ?_)); try (simp (maxSteps := 1000000) (disch := first | exact dq | fail) only [go_sem]))
  ((with_reducible refine aw_seq ?_); (with_reducible refine aw_region (aops_run ?_)); try (simp (maxSteps := 1000000) (disch := first | exact dq | fail) only [go_sem]))
  refine aw_cut ⟨72, sl [(3, .iv (.bool true)), (4, .msl 0 0 m.length m.length), (5, .iv (.int .i64 (manyC m)))], [.row true 3 1 (m.map (IV.int .i64))], 0⟩ ?_ ?_
  · (repeat' first
  | ((with_reducible first | refine Nx.go ?_ | refine rP ?_ | refine rR ?_ | refine And.intro ?_ ?_ | fail) <;> try (simp (maxSteps := 1000000) (disch := first | exact dq | fail) only [go_sem]))
  | ((with_reducible refine Sp.go ?_ ?_) <;> intro h <;> (try (simp (maxSteps := 1000000) (disch := first | exact dq | fail) only [go_sem] at h)) <;> try (simp (maxSteps := 1000000) (disch := first | exact dq | fail) only [go_sem, h])) | fail)
    refine aw_loop (α := Nat) (fun i => ⟨72, sl [(0, .iv (inl l)), (3, .iv (.bool true)), (4, .msl 0 0 i i), (5, .iv (.int .i64 (posD m i).length)), (6, .iv (.int .i64 i))], [.row true 3 1 ((m.take i).map (IV.int .i64))], 0⟩)
      (fun i => i ≤ m.length) (fun i => m.length - i) 0 (wk_by [0] ?_) (Nat.zero_le _) ?_
    · (simp (maxSteps := 1000000) (disch := first | exact dq | fail) only [go_sem])
      rfl
    rintro i hi
    have htl : (m.take i).length = i := by rw [List.length_take]; omega
    have hpl := posD_len m i
    by_cases h : i < m.length
    · have c1 : (i : Int) < l.length := by omega
      have c2 : (i : Int) < 20 := by omega
      have ht := take_snoc m h
      have hx := hma i h
      have hps := posD_succ m i
      rw [hx] at ht hps
      by_cases g : 0 < l.getD i 0 % 1024
      · rw [if_pos g] at hps
        (repeat' first
  | ((with_reducible first | refine Nx.go ?_ | refine rP ?_ | refine rR ?_ | refine And.intro ?_ ?_ | fail) <;> try (simp (maxSteps := 1000000) (disch := first | exact dq | fail) only [go_sem, htl, q, c1, c2, g, decide_true]))
  | ((with_reducible refine Sp.go ?_ ?_) <;> intro h <;> (try (simp (maxSteps := 1000000) (disch := first | exact dq | fail) only [go_sem] at h)) <;> try (simp (maxSteps := 1000000) (disch := first | exact dq | fail) only [go_sem, h, htl, q, c1, c2, g, decide_true])) | fail)
        all_goals (try omega)
        refine ⟨i + 1, by omega, wk_by [0] ?_, by omega⟩
        (simp (maxSteps := 1000000) (disch := first | exact dq | fail) only [go_sem, ht, hps, List.map_append, List.length_append, List.length_cons, List.length_nil, Int.natCast_add])
        try rfl
      · rw [if_neg g, List.append_nil] at hps
        (repeat' first
  | ((with_reducible first | refine Nx.go ?_ | refine rP ?_ | refine rR ?_ | refine And.intro ?_ ?_ | fail) <;> try (simp (maxSteps := 1000000) (disch := first | exact dq | fail) only [go_sem, htl, q, c1, c2, g, decide_true, decide_false]))
  | ((with_reducible refine Sp.go ?_ ?_) <;> intro h <;> (try (simp (maxSteps := 1000000) (disch := first | exact dq | fail) only [go_sem] at h)) <;> try (simp (maxSteps := 1000000) (disch := first | exact dq | fail) only [go_sem, h, htl, q, c1, c2, g, decide_true, decide_false])) | fail)
        all_goals (try omega)
        refine ⟨i + 1, by omega, wk_by [0] ?_, by omega⟩
        (simp (maxSteps := 1000000) (disch := first | exact dq | fail) only [go_sem, ht, hps, List.map_append])
    · have e : m.take i = m := List.take_of_length_le (by omega)
      obtain rfl : i = m.length := by omega
      rw [e, ← hmp]
      by_cases c1 : m.length < l.length
      · have c1' : (m.length : Int) < l.length := by omega
        have c2 : ¬ ((m.length : Int) < 20) := by omega
        (repeat' first
  | ((with_reducible first | refine Nx.go ?_ | refine rP ?_ | refine rR ?_ | refine And.intro ?_ ?_ | fail) <;> try (simp (maxSteps := 1000000) (disch := first | exact dq | fail) only [go_sem, c1', c2, decide_true, decide_false]))
  | ((with_reducible refine Sp.go ?_ ?_) <;> intro h <;> (try (simp (maxSteps := 1000000) (disch := first | exact dq | fail) only [go_sem] at h)) <;> try (simp (maxSteps := 1000000) (disch := first | exact dq | fail) only [go_sem, h, c1', c2, decide_true, decide_false])) | fail)
        all_goals (try omega)
        refine wk_by [0] ?_
        (simp (maxSteps := 1000000) (disch := first | exact dq | fail) only [go_sem])
      · have c1' : ¬ ((m.length : Int) < l.length) := by omega
        (repeat' first
  | ((with_reducible first | refine Nx.go ?_ | refine rP ?_ | refine rR ?_ | refine And.intro ?_ ?_ | fail) <;> try (simp (maxSteps := 1000000) (disch := first | exact dq | fail) only [go_sem, c1', decide_true, decide_false]))
  | ((with_reducible refine Sp.go ?_ ?_) <;> intro h <;> (try (simp (maxSteps := 1000000) (disch := first | exact dq | fail) only [go_sem] at h)) <;> try (simp (maxSteps := 1000000) (disch := first | exact dq | fail) only [go_sem, h, c1', decide_true, decide_false])) | fail)
        all_goals (try omega)
        refine wk_by [0] ?_
        (simp (maxSteps := 1000000) (disch := first | exact dq | fail) only [go_sem])
  have hkb : ∀ c, ((kdsL m).getD c []).length ≤ 30 := fun c => by
    by_cases g : c ∈ cntS m ∧ 2 ≤ manyC m
    · have := kd_len g.1 g.2
      have := @many_le m
      omega
    · rw [kd_none g]; simp
  have hsb : ∀ i, kdSum 30 m i ≤ i * 1073741824 := fun i => by
    induction i with
    | zero => exact Nat.le_refl _
    | succ i ih =>
      rw [kdSum]
      have : 2 ^ (30 - ((kdsL m).getD i []).length) ≤ 1073741824 := Nat.le_trans (Nat.pow_le_pow_right (by decide) (Nat.sub_le _ _)) (Nat.le_refl _)
      rw [Nat.succ_mul]
      split
      · exact Nat.le_trans ih (Nat.le_add_right _ _)
      · exact Nat.add_le_add ih this
  by_cases h2 : 2 ≤ manyC m
  · have g2 : ¬ ((manyC m : Int) < 2) := by omega
    have hfill := kd_fill h2 (B := 30) (by have := @many_le m; omega)
    (repeat' first
  | ((with_reducible first | refine Nx.go ?_ | refine rP ?_ | refine rR ?_ | refine And.intro ?_ ?_ | fail) <;> try (simp (maxSteps := 1000000) (disch := first | exact dq | fail) only [go_sem, g2, decide_false]))
  | ((with_reducible refine Sp.go ?_ ?_) <;> intro h <;> (try (simp (maxSteps := 1000000) (disch := first | exact dq | fail) only [go_sem] at h)) <;> try (simp (maxSteps := 1000000) (disch := first | exact dq | fail) only [go_sem, h, g2, decide_false])) | fail)
    (with_reducible apply left_callfF)
    · with_reducible rfl
    · (simp (maxSteps := 1000000) (disch := first | exact dq | fail) only [go_sem, htk])
      rfl
    · exact hCo
    (simp (maxSteps := 1000000) (disch := first | exact dq | fail) only [go_sem])
    (repeat' first
  | ((with_reducible first | refine Nx.go ?_ | refine rP ?_ | refine rR ?_ | refine And.intro ?_ ?_ | fail) <;> try (simp (maxSteps := 1000000) (disch := first | exact dq | fail) only [go_sem, hkl]))
  | ((with_reducible refine Sp.go ?_ ?_) <;> intro h <;> (try (simp (maxSteps := 1000000) (disch := first | exact dq | fail) only [go_sem] at h)) <;> try (simp (maxSteps := 1000000) (disch := first | exact dq | fail) only [go_sem, h, hkl])) | fail)
    all_goals (try omega)
    refine aw_loop (α := Nat) (fun i => ⟨72, sl [(3, .iv (.bool true)), (8, .iv (.sl 1 (strR (kdsL m)))), (9, .iv (.int .i64 (kdSum 30 m i))), (10, .iv (.int .i64 i))], [], 0⟩)
      (fun i => i ≤ m.length) (fun i => m.length - i) 0 (wk_by [] ?_) (Nat.zero_le _) ?_
    · (simp (maxSteps := 1000000) (disch := first | exact dq | fail) only [go_sem])
      rfl
    rintro i hi
    have hsi := hsb i
    by_cases hil : i < m.length
    · have c1 : (i : Int) < m.length := by omega
      have hgi := hkg i hil
      have hbi := hkb i
      have hcl := cdB_len ((kdsL m).getD i [])
      have b1 : ((((kdsL m).getD i []).length : Int) > 30) = False := eq_false (by omega)
      have hsu : kdSum 30 m (i + 1) = kdSum 30 m i + (if (kdsL m).getD i [] = [] then 0 else 2 ^ (30 - ((kdsL m).getD i []).length)) := rfl
      by_cases g : (kdsL m).getD i [] = []
      · rw [if_pos g] at hsu
        have b2 : (cdB ((kdsL m).getD i []) = []) = True := eq_true (by rw [g]; rfl)
        (repeat' first
  | ((with_reducible first | refine Nx.go ?_ | refine rP ?_ | refine rR ?_ | refine And.intro ?_ ?_ | fail) <;> try (simp (maxSteps := 1000000) (disch := first | exact dq | fail) only [go_sem, c1, hgi, hkl, hcl, b1, b2, decide_true, decide_false]))
  | ((with_reducible refine Sp.go ?_ ?_) <;> intro h <;> (try (simp (maxSteps := 1000000) (disch := first | exact dq | fail) only [go_sem] at h)) <;> try (simp (maxSteps := 1000000) (disch := first | exact dq | fail) only [go_sem, h, c1, hgi, hkl, hcl, b1, b2, decide_true, decide_false])) | fail)
        all_goals (try omega)
        refine ⟨i + 1, by omega, wk_by [] ?_, by omega⟩
        (simp (maxSteps := 1000000) (disch := first | exact dq | fail) only [go_sem, hsu, Nat.add_zero])
      · rw [if_neg g] at hsu
        have b2 : (cdB ((kdsL m).getD i []) = []) = False := eq_false (fun e => g (cdB_inj (b := []) e))
        have hp30 : 2 ^ (30 - ((kdsL m).getD i []).length) ≤ 1073741824 := Nat.le_trans (Nat.pow_le_pow_right (by decide) (Nat.sub_le _ _)) (Nat.le_refl _)
        have hw0 : (1 * 2 ^ min (30 - (((kdsL m).getD i []).length : Int)).toNat 64 : Int) = ((2 ^ (30 - ((kdsL m).getD i []).length) : Nat) : Int) := by
          rw [Int.one_mul, show min (30 - (((kdsL m).getD i []).length : Int)).toNat 64 = 30 - ((kdsL m).getD i []).length from by omega]
          exact (Int.natCast_pow 2 _).symm
        generalize 2 ^ (30 - ((kdsL m).getD i []).length) = P at *
        have hw1 : IntKind.i64.wrap (P : Int) = (P : Int) := wrapS ⟨by omega, by omega⟩
        have hw2 : IntKind.i64.wrap ((kdSum 30 m i : Int) + (P : Int)) = (kdSum 30 m i : Int) + (P : Int) := wrapS ⟨by omega, by omega⟩
        (repeat' first
  | ((with_reducible first | refine Nx.go ?_ | refine rP ?_ | refine rR ?_ | refine And.intro ?_ ?_ | fail) <;> try (simp (maxSteps := 1000000) (disch := first | exact dq | fail) only [go_sem, c1, hgi, hkl, hcl, b1, b2, hw0, hw1, hw2, decide_true, decide_false]))
  | ((with_reducible refine Sp.go ?_ ?_) <;> intro h <;> (try (simp (maxSteps := 1000000) (disch := first | exact dq | fail) only [go_sem] at h)) <;> try (simp (maxSteps := 1000000) (disch := first | exact dq | fail) only [go_sem, h, c1, hgi, hkl, hcl, b1, b2, hw0, hw1, hw2, decide_true, decide_false])) | fail)
        all_goals (try omega)
        refine ⟨i + 1, by omega, wk_by [] ?_, by omega⟩
        (simp (maxSteps := 1000000) (disch := first | exact dq | fail) only [go_sem, hsu, Int.natCast_add])
    · obtain rfl : i = m.length := by omega
      have c1 : ¬ ((m.length : Int) < m.length) := by omega
      have hf2 : (kdSum 30 m m.length : Int) = 1073741824 := by rw [hfill]; rfl
      (repeat' first
  | ((with_reducible first | refine Nx.go ?_ | refine rP ?_ | refine rR ?_ | refine And.intro ?_ ?_ | fail) <;> try (simp (maxSteps := 1000000) (disch := first | exact dq | fail) only [go_sem, c1, decide_false, hkl, hf2]))
  | ((with_reducible refine Sp.go ?_ ?_) <;> intro h <;> (try (simp (maxSteps := 1000000) (disch := first | exact dq | fail) only [go_sem] at h)) <;> try (simp (maxSteps := 1000000) (disch := first | exact dq | fail) only [go_sem, h, c1, decide_false, hkl, hf2])) | fail)
      all_goals (try omega)
  · have g2 : ((manyC m : Int) < 2) := by omega
    (repeat' first
  | ((with_reducible first | refine Nx.go ?_ | refine rP ?_ | refine rR ?_ | refine And.intro ?_ ?_ | fail) <;> try (simp (maxSteps := 1000000) (disch := first | exact dq | fail) only [go_sem, g2, decide_true]))
  | ((with_reducible refine Sp.go ?_ ?_) <;> intro h <;> (try (simp (maxSteps := 1000000) (disch := first | exact dq | fail) only [go_sem] at h)) <;> try (simp (maxSteps := 1000000) (disch := first | exact dq | fail) only [go_sem, h, g2, decide_true])) | fail)

end Go.Proofs.Ytpjncojljamacaa.AM
