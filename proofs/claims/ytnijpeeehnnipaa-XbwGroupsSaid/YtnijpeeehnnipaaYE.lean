
/- Chapter 16: a tree's rows, as values; the document's Same of a tree's rows and themselves. No condition but lengths that fit. -/
import Derived.Test.YtnijpeeehnnipaaYD
set_option linter.unusedVariables false
set_option linter.unusedSimpArgs false
set_option maxRecDepth 20000
namespace Go.Proofs.Ytnijpeeehnnipaa.AM
open Go Go.RowKit

structure Rw where
  order : List Int
  last : List Bool
  symbol : List Int
  leaf : List Bool
  begins : List Int
def rwV (r : Rw) : IV := .agg [inl r.order, blsV r.last, inl r.symbol, blsV r.leaf, inl r.begins]
def rw0 : Rw := ⟨[], [], [], [], []⟩
set_option maxHeartbeats 4000000 in
theorem RwSame_spec (r : Rw) (h1 : r.order.length ≤ 1000000) (h2 : r.last.length ≤ 1000000) (h3 : r.symbol.length ≤ 1000000) (h4 : r.leaf.length ≤ 1000000) (h5 : r.begins.length ≤ 10000000) :
    PCalls Try.prog 13 [rwV r, rwV r] (.bool true) := by
  obtain ⟨a, b, c, d, e⟩ := r
  unfold rwV blsV
  dsimp only at *
  refine PCalls.of_aw Try.func13 rfl (by unfold Callable; kernel_rfl) (by kernel_rfl) (by simp [Try.ntmps13]) ?_; rw [Try.ntmps13, Try.results13]; (simp (maxSteps := 1000000) (disch := first | exact dq | fail) only [go_sem])
  (repeat' (first | refine Nx.go ?_ | fail) <;> try (simp (maxSteps := 1000000) (disch := first | exact dq | fail) only [go_sem]))
  all_goals (try omega)
  refine aw_loop (α := Nat) (fun i => ⟨143, sl [(2, .mp 0 0), (3, .mp 1 0), (5, .iv (.int .i64 i))], [.var 31 [.iv (inl a), .iv (.sl 1 (b.map .bool)), .iv (inl c), .iv (.sl 1 (d.map .bool)), .iv (inl e)], .var 31 [.iv (inl a), .iv (.sl 1 (b.map .bool)), .iv (inl c), .iv (.sl 1 (d.map .bool)), .iv (inl e)]], 0⟩)
    (fun i => i ≤ a.length) (fun i => a.length - i) 0 (wk_by [0, 1] ?_) (by omega) ?_
  · (simp (maxSteps := 1000000) (disch := first | exact dq | fail) only [go_sem])
    try exact ⟨rfl, rfl⟩
  rintro i hi
  by_cases g : i < a.length
  · have g1 : (i : Int) < a.length := by omega
    have hg : a[i]? = some a[i] := List.getElem?_eq_getElem g
    generalize a[i] = z at hg
    (repeat' (with_reducible first | refine Nx.go ?_ | refine rP ?_ | refine And.intro ?_ ?_ | fail) <;> try (simp (maxSteps := 1000000) (disch := first | exact dq | fail) only [go_sem, g1, hg, decide_true, not_true, decide_false, bne_self_eq_false]))
    all_goals (try omega)
    refine ⟨i + 1, by omega, wk_by [0, 1] ?_, by omega⟩
    (simp (maxSteps := 1000000) (disch := first | exact dq | fail) only [go_sem])
    try exact ⟨rfl, rfl⟩
  obtain rfl : i = a.length := by omega
  have g1 : ¬ (a.length : Int) < a.length := by omega
  (repeat' (first | refine Nx.go ?_ | fail) <;> try (simp (maxSteps := 1000000) (disch := first | exact dq | fail) only [go_sem, g1, decide_false]))
  all_goals (try omega)
  refine aw_loop (α := Nat) (fun i => ⟨143, sl [(2, .mp 0 0), (3, .mp 1 0), (6, .iv (.int .i64 i))], [.var 31 [.iv (inl a), .iv (.sl 1 (b.map .bool)), .iv (inl c), .iv (.sl 1 (d.map .bool)), .iv (inl e)], .var 31 [.iv (inl a), .iv (.sl 1 (b.map .bool)), .iv (inl c), .iv (.sl 1 (d.map .bool)), .iv (inl e)]], 0⟩)
    (fun i => i ≤ b.length) (fun i => b.length - i) 0 (wk_by [0, 1] ?_) (by omega) ?_
  · (simp (maxSteps := 1000000) (disch := first | exact dq | fail) only [go_sem])
    try exact ⟨rfl, rfl⟩
  rintro i hi
  by_cases g : i < b.length
  · have g1 : (i : Int) < b.length := by omega
    have hg : b[i]? = some b[i] := List.getElem?_eq_getElem g
    generalize b[i] = z at hg
    (repeat' (with_reducible first | refine Nx.go ?_ | refine rP ?_ | refine And.intro ?_ ?_ | fail) <;> try (simp (maxSteps := 1000000) (disch := first | exact dq | fail) only [go_sem, g1, hg, decide_true, not_true, decide_false, bne_self_eq_false]))
    all_goals (try omega)
    refine ⟨i + 1, by omega, wk_by [0, 1] ?_, by omega⟩
    (simp (maxSteps := 1000000) (disch := first | exact dq | fail) only [go_sem])
    try exact ⟨rfl, rfl⟩
  obtain rfl : i = b.length := by omega
  have g1 : ¬ (b.length : Int) < b.length := by omega
  (repeat' (first | refine Nx.go ?_ | fail) <;> try (simp (maxSteps := 1000000) (disch := first | exact dq | fail) only [go_sem, g1, decide_false]))
  all_goals (try omega)
  refine aw_loop (α := Nat) (fun i => ⟨143, sl [(2, .mp 0 0), (3, .mp 1 0), (7, .iv (.int .i64 i))], [.var 31 [.iv (inl a), .iv (.sl 1 (b.map .bool)), .iv (inl c), .iv (.sl 1 (d.map .bool)), .iv (inl e)], .var 31 [.iv (inl a), .iv (.sl 1 (b.map .bool)), .iv (inl c), .iv (.sl 1 (d.map .bool)), .iv (inl e)]], 0⟩)
    (fun i => i ≤ c.length) (fun i => c.length - i) 0 (wk_by [0, 1] ?_) (by omega) ?_
  · (simp (maxSteps := 1000000) (disch := first | exact dq | fail) only [go_sem])
    try exact ⟨rfl, rfl⟩
  rintro i hi
  by_cases g : i < c.length
  · have g1 : (i : Int) < c.length := by omega
    have hg : c[i]? = some c[i] := List.getElem?_eq_getElem g
    generalize c[i] = z at hg
    (repeat' (with_reducible first | refine Nx.go ?_ | refine rP ?_ | refine And.intro ?_ ?_ | fail) <;> try (simp (maxSteps := 1000000) (disch := first | exact dq | fail) only [go_sem, g1, hg, decide_true, not_true, decide_false, bne_self_eq_false]))
    all_goals (try omega)
    refine ⟨i + 1, by omega, wk_by [0, 1] ?_, by omega⟩
    (simp (maxSteps := 1000000) (disch := first | exact dq | fail) only [go_sem])
    try exact ⟨rfl, rfl⟩
  obtain rfl : i = c.length := by omega
  have g1 : ¬ (c.length : Int) < c.length := by omega
  (repeat' (first | refine Nx.go ?_ | fail) <;> try (simp (maxSteps := 1000000) (disch := first | exact dq | fail) only [go_sem, g1, decide_false]))
  all_goals (try omega)
  refine aw_loop (α := Nat) (fun i => ⟨143, sl [(2, .mp 0 0), (3, .mp 1 0), (8, .iv (.int .i64 i))], [.var 31 [.iv (inl a), .iv (.sl 1 (b.map .bool)), .iv (inl c), .iv (.sl 1 (d.map .bool)), .iv (inl e)], .var 31 [.iv (inl a), .iv (.sl 1 (b.map .bool)), .iv (inl c), .iv (.sl 1 (d.map .bool)), .iv (inl e)]], 0⟩)
    (fun i => i ≤ d.length) (fun i => d.length - i) 0 (wk_by [0, 1] ?_) (by omega) ?_
  · (simp (maxSteps := 1000000) (disch := first | exact dq | fail) only [go_sem])
    try exact ⟨rfl, rfl⟩
  rintro i hi
  by_cases g : i < d.length
  · have g1 : (i : Int) < d.length := by omega
    have hg : d[i]? = some d[i] := List.getElem?_eq_getElem g
    generalize d[i] = z at hg
    (repeat' (with_reducible first | refine Nx.go ?_ | refine rP ?_ | refine And.intro ?_ ?_ | fail) <;> try (simp (maxSteps := 1000000) (disch := first | exact dq | fail) only [go_sem, g1, hg, decide_true, not_true, decide_false, bne_self_eq_false]))
    all_goals (try omega)
    refine ⟨i + 1, by omega, wk_by [0, 1] ?_, by omega⟩
    (simp (maxSteps := 1000000) (disch := first | exact dq | fail) only [go_sem])
    try exact ⟨rfl, rfl⟩
  obtain rfl : i = d.length := by omega
  have g1 : ¬ (d.length : Int) < d.length := by omega
  (repeat' (first | refine Nx.go ?_ | fail) <;> try (simp (maxSteps := 1000000) (disch := first | exact dq | fail) only [go_sem, g1, decide_false]))
  all_goals (try omega)
  refine aw_loop (α := Nat) (fun i => ⟨143, sl [(2, .mp 0 0), (3, .mp 1 0), (9, .iv (.int .i64 i))], [.var 31 [.iv (inl a), .iv (.sl 1 (b.map .bool)), .iv (inl c), .iv (.sl 1 (d.map .bool)), .iv (inl e)], .var 31 [.iv (inl a), .iv (.sl 1 (b.map .bool)), .iv (inl c), .iv (.sl 1 (d.map .bool)), .iv (inl e)]], 0⟩)
    (fun i => i ≤ e.length) (fun i => e.length - i) 0 (wk_by [0, 1] ?_) (by omega) ?_
  · (simp (maxSteps := 1000000) (disch := first | exact dq | fail) only [go_sem])
    try exact ⟨rfl, rfl⟩
  rintro i hi
  by_cases g : i < e.length
  · have g1 : (i : Int) < e.length := by omega
    have hg : e[i]? = some e[i] := List.getElem?_eq_getElem g
    generalize e[i] = z at hg
    (repeat' (with_reducible first | refine Nx.go ?_ | refine rP ?_ | refine And.intro ?_ ?_ | fail) <;> try (simp (maxSteps := 1000000) (disch := first | exact dq | fail) only [go_sem, g1, hg, decide_true, not_true, decide_false, bne_self_eq_false]))
    all_goals (try omega)
    refine ⟨i + 1, by omega, wk_by [0, 1] ?_, by omega⟩
    (simp (maxSteps := 1000000) (disch := first | exact dq | fail) only [go_sem])
    try exact ⟨rfl, rfl⟩
  obtain rfl : i = e.length := by omega
  have g1 : ¬ (e.length : Int) < e.length := by omega
  (repeat' (first | refine Nx.go ?_ | fail) <;> try (simp (maxSteps := 1000000) (disch := first | exact dq | fail) only [go_sem, g1, decide_false]))
  all_goals (try omega)
end Go.Proofs.Ytnijpeeehnnipaa.AM
