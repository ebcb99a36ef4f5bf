
/- Chapter 16: xbw.ranks and xbw.Order. No condition but lengths that fit. -/
import Derived.Test.YtnijpeeehnnipaaYC
set_option linter.unusedVariables false
set_option linter.unusedSimpArgs false
set_option maxRecDepth 20000
namespace Go.Proofs.Ytnijpeeehnnipaa.AM
open Go Go.RowKit

def dblF (t : Tr) : Nat → Nat → List Int → List Int
  | 0, _, r => r
  | f + 1, d, r => if (jmpL t d).all (fun k => decide (k < 0)) = true then r else dblF t f (d + d) (pairL r (bydL r (jmpL t d) (-1)))
theorem jmp_some {t : Tr} {d : Nat} (h : ¬ (jmpL t d).all (fun k => decide (k < 0)) = true) : d < t.len := by
  rw [List.all_eq_true] at h
  simp only [decide_eq_true_eq, Classical.not_forall] at h
  obtain ⟨x, hx, h⟩ := h
  obtain ⟨i, hi, rfl⟩ := List.getElem_of_mem hx
  rw [jmpL_len] at hi
  rw [← getD_el (by rw [jmpL_len]; exact hi), jmpL_at t d hi] at h
  have := anc_le t d i (by omega)
  omega
theorem jmp_none {t : Tr} {d : Nat} (h : (jmpL t d).all (fun k => decide (k < 0)) = true) : ∀ i : Nat, i < t.len → anc t d i < 0 := fun i hi => by
  rw [List.all_eq_true] at h
  have := h ((jmpL t d).getD i 0) (getD_mem (by rw [jmpL_len]; exact hi))
  rw [jmpL_at t d hi] at this
  simpa using this
theorem dblF_ok {t : Tr} : ∀ (f d : Nat) (r : List Int), RkD t d r → 1 ≤ d → t.len ≤ f + d → ∃ d', RkD t d' (dblF t f d r) ∧ ∀ i : Nat, i < t.len → anc t d' i < 0
  | 0, d, r, h, h1, h2 => ⟨d, h, fun i hi => by
      by_cases c : 0 ≤ anc t d i
      · have := anc_le t d i c; omega
      · omega⟩
  | f + 1, d, r, h, h1, h2 => by
    rw [dblF]
    split
    · rename_i c; exact ⟨d, h, jmp_none c⟩
    · exact dblF_ok f (d + d) _ h.two (by omega) (by omega)
theorem dblF_stop {t : Tr} {d : Nat} (h : (jmpL t d).all (fun k => decide (k < 0)) = true) (r : List Int) : ∀ f, dblF t f d r = r
  | 0 => rfl
  | f + 1 => by rw [dblF, if_pos h]
theorem dblF_go {t : Tr} {d f : Nat} (h : ¬ (jmpL t d).all (fun k => decide (k < 0)) = true) (hf : t.len ≤ f + d) (r : List Int) : ∃ g, f = g + 1 ∧ dblF t f d r = dblF t g (d + d) (pairL r (bydL r (jmpL t d) (-1))) := by
  have := jmp_some h
  obtain ⟨g, rfl⟩ : ∃ g, f = g + 1 := ⟨f - 1, by omega⟩
  exact ⟨g, rfl, by rw [dblF, if_neg h]⟩
def rksT (t : Tr) : List Int := dblF t t.len 1 (rankL (fstL t))
theorem rksT_ok (t : Tr) : (rksT t).length = t.len ∧ (∀ i, i < t.len → 0 ≤ (rksT t).getD i 0 ∧ (rksT t).getD i 0 < t.len) ∧ ∀ i j, i < t.len → j < t.len → ((rksT t).getD i 0 < (rksT t).getD j 0 ↔ wK16 t i < wK16 t j) := by
  obtain ⟨d, h, h2⟩ := dblF_ok t.len 1 _ (RkD.one t) (Nat.le_refl _) (by omega)
  exact ⟨h.1, h.2.1, h.whole h2⟩
theorem max_neg {l : List Int} (h0 : 0 < l.length) : mxF (fun i => l.getD i 0) (l.length - 1) < 0 ↔ l.all (fun k => decide (k < 0)) = true := by
  rw [List.all_eq_true]
  constructor
  · intro h x hx
    obtain ⟨i, hi, rfl⟩ := List.getElem_of_mem hx
    have := mxF_ge (fun i => l.getD i 0) (l.length - 1) i (by omega)
    rw [decide_eq_true_eq, ← getD_el hi]
    omega
  · intro h
    obtain ⟨j, hj, e⟩ := mxF_at (fun i => l.getD i 0) (l.length - 1)
    rw [e]
    have := h (l.getD j 0) (getD_mem (by omega))
    simpa using this
def rowU (n : Nat) (g : Nat → Int) (i : Nat) : List IV := rowF n (fun m => if m < i then g m else 0)
theorem rowU_len (n : Nat) (g : Nat → Int) (i : Nat) : (rowU n g i).length = n := rowF_len _ _
theorem rowU_zero (n : Nat) (g : Nat → Int) : List.replicate n (IV.int .i64 0) = rowU n g 0 := by rw [rowF_rep]; rfl
theorem rowU_all (n : Nat) (g : Nat → Int) : rowU n g n = rowF n g := rowF_congr (fun m hm => if_pos hm)
theorem rowU_set {n i : Nat} {g : Nat → Int} {z : Int} (h : z = g i) : (rowU n g i).set i (.int .i64 z) = rowU n g (i + 1) := by
  unfold rowU
  rw [rowF_set]
  refine rowF_congr (fun m hm => ?_)
  by_cases e : m = i
  · subst e; simp [h]
  · rw [if_neg e]
    by_cases h2 : m < i
    · rw [if_pos h2, if_pos (by omega)]
    · rw [if_neg h2, if_neg (by omega)]
theorem rowU_get {n i j : Nat} {g : Nat → Int} (h : j < n) (hi : j < i) : (rowU n g i)[j]? = some (.int .i64 (g j)) := by
  unfold rowU
  rw [rowF_get _ h, if_pos hi]
theorem rowU_old {n i j : Nat} {g : Nat → Int} (h : j < n) : ∃ z, (rowU n g i)[j]? = some (.int .i64 z) := ⟨_, rowF_get _ h⟩
set_option maxHeartbeats 8000000 in
theorem ranks_spec (t : Tr) (hl : t.nodes.length ≤ 1000000) (hn : t.names.length ≤ 1000000) : PCalls Try.prog 36 [trV t] (inl (rksT t)) := by
  have hP := fun i => Parent15_spec t i hl
  have hS := fun i => Symbol15_spec t i hl hn
  have hfl := fstL_len t
  have hfa := fun i => @fstL_at t i
  have hj1 : jmpL t 1 = (idL t.nodes.length).map (parF t) := rfl
  have hlen : t.len = t.nodes.length := rfl
  unfold rksT
  generalize hR : dblF t t.len 1 (rankL (fstL t)) = R
  unfold trV at *
  refine PCalls.of_aw Try.func36 rfl (by unfold Callable; kernel_rfl) (by kernel_rfl) (by simp [Try.ntmps36]) ?_; rw [Try.ntmps36, Try.results36]; (simp (maxSteps := 1000000) (disch := first | exact dq | fail) only [go_sem])
  (repeat' (with_reducible first | refine Nx.go ?_ | refine And.intro ?_ ?_ | fail) <;> try (simp (maxSteps := 1000000) (disch := first | exact dq | fail) only [go_sem]))
  all_goals (try omega)
  refine aw_loop (α := Nat) (fun i => ⟨66, sl [(1, .mp 0 0), (3, .mp 1 0), (4, .mp 3 0), (5, .msl 4 0 t.nodes.length t.nodes.length), (16, .iv (.int .i64 t.nodes.length)), (17, .iv (.int .i64 i))],
      [.var 25 [.iv (.sl 1 (t.names.map fun s => IV.str (bs s))), .iv (.sl 4 (t.nodes.map ndV))], .var 3 [.iv (.int .i64 t.nodes.length)], .row true 3 1 (rowU t.nodes.length (fun m => parF t m) i), .var 28 [.msl 2 0 t.nodes.length t.nodes.length],
        .row true 3 1 (rowU t.nodes.length (fun m => (fstL t).getD m 0) i)], 0⟩)
    (fun i => i ≤ t.nodes.length) (fun i => t.nodes.length - i) 0 (wk_by [0, 2, 3, 4, 5] ?_) (by omega) ?_
  · (simp (maxSteps := 1000000) (disch := first | exact dq | fail) only [go_sem])
    exact ⟨by rw [rowU_zero t.nodes.length (fun m => parF t m)], by rw [rowU_zero t.nodes.length (fun m => (fstL t).getD m 0)]⟩
  rintro i hi
  have hl1 := rowU_len t.nodes.length (fun m => parF t m) i
  have hl2 := rowU_len t.nodes.length (fun m => (fstL t).getD m 0) i
  by_cases h : i < t.nodes.length
  · have g1 : (i : Int) < t.nodes.length := by omega
    have hs1 := @rowU_set t.nodes.length i (fun m => parF t m) (parF t i) rfl
    have hs2 := @rowU_set t.nodes.length i (fun m => (fstL t).getD m 0) ((fstL t).getD i 0) rfl
    have hg1 : (rowU t.nodes.length (fun m => parF t m) (i + 1))[i]? = some (.int .i64 (parF t i)) := rowU_get h (Nat.lt_succ_self i)
    obtain ⟨z1, ho1⟩ := @rowU_old t.nodes.length i i (fun m => parF t m) h
    obtain ⟨z2, ho2⟩ := @rowU_old t.nodes.length i i (fun m => (fstL t).getD m 0) h
    have hl3 := rowU_len t.nodes.length (fun m => parF t m) (i + 1)
    have hfi := hfa i h
    generalize rowU t.nodes.length (fun m => parF t m) i = R1 at *
    generalize hE1 : rowU t.nodes.length (fun m => parF t m) (i + 1) = R1' at *
    generalize rowU t.nodes.length (fun m => (fstL t).getD m 0) i = R2 at *
    generalize hE2 : rowU t.nodes.length (fun m => (fstL t).getD m 0) (i + 1) = R2' at *
    by_cases c : 0 ≤ parF t i
    · have c1 : (parF t i ≥ 0) = True := eq_true c
      rw [if_pos c] at hfi
      rw [hfi] at hs2
      have hls : (R2.set i (.int .i64 (-2))).length = t.nodes.length := by rw [List.length_set, hl2]
      have hr1 : (R2.set i (.int .i64 (-2)))[i]? = some (.int .i64 (-2)) := List.getElem?_set_self (by omega)
      have hs3 : (R2.set i (.int .i64 (-2))).set i (.int .i64 (symF t (parF t i))) = R2' := by rw [List.set_set]; exact hs2
      generalize hR3 : R2.set i (.int .i64 (-2)) = R3 at *
      (repeat' (with_reducible first | refine Nx.go ?_ | refine rP ?_ | fail) <;> try (simp (maxSteps := 1000000) (disch := first | exact dq | fail) only [go_sem, g1, decide_true]))
      all_goals (try omega)
      ((with_reducible first | apply left_callf | apply leftD_callf | apply leftF_callf); (· with_reducible rfl); (· (simp (maxSteps := 1000000) (disch := first | exact dq | fail) only [go_sem]) <;> rfl); (· exact hP i); try (simp (maxSteps := 1000000) (disch := first | exact dq | fail) only [go_sem]))
      (repeat' (with_reducible first | refine Nx.go ?_ | refine rP ?_ | refine And.intro ?_ ?_ | fail) <;> try (simp (maxSteps := 1000000) (disch := first | exact dq | fail) only [go_sem, hl1, hl2, ho1, ho2, hs1, hg1, hl3, c1, hR3, hls, hr1, decide_true]))
      all_goals (try omega)
      ((with_reducible first | apply left_callf | apply leftD_callf | apply leftF_callf); (· with_reducible rfl); (· (simp (maxSteps := 1000000) (disch := first | exact dq | fail) only [go_sem]) <;> rfl); (· exact hS _); try (simp (maxSteps := 1000000) (disch := first | exact dq | fail) only [go_sem]))
      (repeat' (with_reducible first | refine Nx.go ?_ | refine And.intro ?_ ?_ | fail) <;> try (simp (maxSteps := 1000000) (disch := first | exact dq | fail) only [go_sem, hls, hr1, hs3]))
      all_goals (try omega)
      refine ⟨i + 1, by omega, wk_by [0, 1, 2, 3, 4] ?_, by omega⟩
      (simp (maxSteps := 1000000) (disch := first | exact dq | fail) only [go_sem, hE1, hE2])
    · have c1 : (parF t i ≥ 0) = False := eq_false c
      rw [if_neg c] at hfi
      rw [hfi] at hs2
      (repeat' (with_reducible first | refine Nx.go ?_ | refine rP ?_ | fail) <;> try (simp (maxSteps := 1000000) (disch := first | exact dq | fail) only [go_sem, g1, decide_true]))
      all_goals (try omega)
      ((with_reducible first | apply left_callf | apply leftD_callf | apply leftF_callf); (· with_reducible rfl); (· (simp (maxSteps := 1000000) (disch := first | exact dq | fail) only [go_sem]) <;> rfl); (· exact hP i); try (simp (maxSteps := 1000000) (disch := first | exact dq | fail) only [go_sem]))
      (repeat' (with_reducible first | refine Nx.go ?_ | refine And.intro ?_ ?_ | fail) <;> try (simp (maxSteps := 1000000) (disch := first | exact dq | fail) only [go_sem, hl1, hl2, ho1, ho2, hs1, hs2, hg1, hl3, c1, decide_false]))
      all_goals (try omega)
      refine ⟨i + 1, by omega, wk_by [0, 1, 2, 3, 4] ?_, by omega⟩
      (simp (maxSteps := 1000000) (disch := first | exact dq | fail) only [go_sem, hE1, hE2])
  · obtain rfl : i = t.nodes.length := by omega
    have g1 : ¬ (t.nodes.length : Int) < t.nodes.length := by omega
    rw [rowU_all] at hl1 hl2 ⊢
    rw [rowU_all]
    have e1 : rowF t.nodes.length (fun m => parF t m) = (jmpL t 1).map (IV.int .i64) := by
      rw [rowF_of, jmpL_len]; exact rowF_congr (fun m hm => (jmpL_at t 1 hm).symm)
    have e2 : rowF t.nodes.length (fun m => (fstL t).getD m 0) = (fstL t).map (IV.int .i64) := by
      rw [rowF_of, hfl]; rfl
    rw [e1] at hl1 ⊢
    rw [e2] at hl2 ⊢
    have hjl := jmpL_len t 1
    rw [hlen] at hjl hfl
    have htj : List.take t.nodes.length ((jmpL t 1).map (IV.int .i64)) = (jmpL t 1).map (IV.int .i64) := List.take_of_length_le (by omega)
    have htf : List.take t.nodes.length ((fstL t).map (IV.int .i64)) = (fstL t).map (IV.int .i64) := List.take_of_length_le (by omega)
    refine aw_wk (wk_frzc 3 0 (x := .msl 2 0 t.nodes.length t.nodes.length) (y := inl (jmpL t 1)) (M1 := [.var 25 [.iv (.sl 1 (t.names.map fun s => IV.str (bs s))), .iv (.sl 4 (t.nodes.map ndV))], .var 3 [.iv (.int .i64 t.nodes.length)], .row false 3 1 ((jmpL t 1).map (IV.int .i64)), .var 28 [.msl 2 0 t.nodes.length t.nodes.length],
        .row true 3 1 ((fstL t).map (IV.int .i64))]) rfl rfl ?_ rfl) ?_
    · (simp (maxSteps := 1000000) (disch := first | exact dq | fail) only [go_sem, hjl, htj])
    refine aw_wk (wk_frz (i := 5) (y := inl (fstL t)) (M' := [.var 25 [.iv (.sl 1 (t.names.map fun s => IV.str (bs s))), .iv (.sl 4 (t.nodes.map ndV))], .var 3 [.iv (.int .i64 t.nodes.length)], .row false 3 1 ((jmpL t 1).map (IV.int .i64)), .var 28 [.iv (inl (jmpL t 1))],
        .row false 3 1 ((fstL t).map (IV.int .i64))]) ?_) ?_
    · (simp (maxSteps := 1000000) (disch := first | exact dq | fail) only [go_sem, hfl, htf])
    have hRk := Ranks_spec (fstL t) (by omega)
    refine aw_wk (s' := ⟨66, sl [(1, .mp 0 0), (3, .mp 1 0), (4, .mp 2 0), (5, .iv (inl (fstL t))), (16, .iv (.int .i64 t.nodes.length)), (17, .iv (.int .i64 t.nodes.length))],
      [.var 25 [.iv (.sl 1 (t.names.map fun s => IV.str (bs s))), .iv (.sl 4 (t.nodes.map ndV))], .var 3 [.iv (.int .i64 t.nodes.length)], .var 28 [.iv (inl (jmpL t 1))]], 0⟩) (wk_by [0, 1, 3] ?_) ?_
    · (simp (maxSteps := 1000000) (disch := first | exact dq | fail) only [go_sem])
    (repeat' (first | refine Nx.go ?_ | fail) <;> try (simp (maxSteps := 1000000) (disch := first | exact dq | fail) only [go_sem, g1, decide_false]))
    all_goals (try omega)
    ((with_reducible first | apply left_callf | apply leftD_callf | apply leftF_callf); (· with_reducible rfl); (· (simp (maxSteps := 1000000) (disch := first | exact dq | fail) only [go_sem]) <;> rfl); (· exact hRk); try (simp (maxSteps := 1000000) (disch := first | exact dq | fail) only [go_sem]))
    (repeat' (first | refine Nx.go ?_ | fail) <;> try (simp (maxSteps := 1000000) (disch := first | exact dq | fail) only [go_sem]))
    refine aw_loop (α := Nat × Nat × List Int) (fun z => ⟨66, sl [(1, .mp 0 0), (3, .mp 1 0), (4, .mp 2 0), (7, .iv (inl z.2.2))],
        [.var 25 [.iv (.sl 1 (t.names.map fun s => IV.str (bs s))), .iv (.sl 4 (t.nodes.map ndV))], .var 3 [.iv (.int .i64 t.nodes.length)], .var 28 [.iv (inl (jmpL t z.2.1))]], 0⟩)
      (fun z => RkD t z.2.1 z.2.2 ∧ 1 ≤ z.2.1 ∧ t.len ≤ z.1 + z.2.1 ∧ dblF t z.1 z.2.1 z.2.2 = R) (fun z => z.1) (t.len, 1, rankL (fstL t)) (wk_by [0, 1, 2] ?_) ⟨RkD.one t, Nat.le_refl _, by dsimp only; omega, hR⟩ ?_
    · (simp (maxSteps := 1000000) (disch := first | exact dq | fail) only [go_sem])
    rintro ⟨f, d, r⟩ ⟨z1, z2, z3, z4⟩
    dsimp only at z1 z2 z3 z4
    have hdl := jmpL_len t d
    rw [hlen] at hdl
    by_cases hz : t.nodes.length = 0
    · have c1 : ((t.nodes.length : Int) = 0) = True := eq_true (by omega)
      have hst := dblF_stop (t := t) (d := d) (by rw [List.eq_nil_of_length_eq_zero (hdl.trans hz)]; rfl) r f
      rw [hst] at z4
      subst z4
      (repeat' (first | refine Nx.go ?_ | fail) <;> try (simp (maxSteps := 1000000) (disch := first | exact dq | fail) only [go_sem, c1, decide_true]))
      all_goals (try omega)
    · have c1 : ((t.nodes.length : Int) = 0) = False := eq_false (by omega)
      have hMx := Max_spec (jmpL t d) (by omega) (by omega)
      have hmn := max_neg (l := jmpL t d) (by omega)
      generalize mxF (fun i => (jmpL t d).getD i 0) ((jmpL t d).length - 1) = mx at *
      by_cases cm : mx < 0
      · have hst := dblF_stop (hmn.1 cm) r f
        rw [hst] at z4
        subst z4
        (repeat' (first | refine Nx.go ?_ | fail) <;> try (simp (maxSteps := 1000000) (disch := first | exact dq | fail) only [go_sem, c1, decide_false]))
        all_goals (try omega)
        ((with_reducible first | apply left_callf | apply leftD_callf | apply leftF_callf); (· with_reducible rfl); (· (simp (maxSteps := 1000000) (disch := first | exact dq | fail) only [go_sem]) <;> rfl); (· exact hMx); try (simp (maxSteps := 1000000) (disch := first | exact dq | fail) only [go_sem]))
        (repeat' (first | refine Nx.go ?_ | fail) <;> try (simp (maxSteps := 1000000) (disch := first | exact dq | fail) only [go_sem, eq_true cm, decide_true]))
        all_goals (try omega)
      · obtain ⟨g, rfl, hgo⟩ := dblF_go (fun h => cm (hmn.2 h)) z3 r
        have hrl := z1.1
        rw [hlen] at hrl
        have hjb : ∀ k ∈ jmpL t d, k < t.nodes.length := fun k hk => by
          obtain ⟨i, hi, rfl⟩ := List.getElem_of_mem hk
          rw [hdl] at hi
          rw [← getD_el (by rw [hdl]; exact hi), jmpL_at t d hi]
          by_cases cc : 0 ≤ anc t d i
          · have := anc_lt t d i (by omega) cc; omega
          · omega
        have hB1 := beyond_spec r (jmpL t d) (-1) t.nodes.length hrl hdl hl hjb
        have hB2 := beyond_spec (jmpL t d) (jmpL t d) (-1) t.nodes.length hdl hdl hl hjb
        rw [jmp_two] at hB2
        have hPa := Pairs_ok r (bydL r (jmpL t d) (-1)) (by unfold bydL; rw [List.length_map, hrl, hdl]) (by omega)
        have z1' := z1.two
        (repeat' (first | refine Nx.go ?_ | fail) <;> try (simp (maxSteps := 1000000) (disch := first | exact dq | fail) only [go_sem, c1, decide_false]))
        all_goals (try omega)
        ((with_reducible first | apply left_callf | apply leftD_callf | apply leftF_callf); (· with_reducible rfl); (· (simp (maxSteps := 1000000) (disch := first | exact dq | fail) only [go_sem]) <;> rfl); (· exact hMx); try (simp (maxSteps := 1000000) (disch := first | exact dq | fail) only [go_sem]))
        (repeat' (first | refine Nx.go ?_ | fail) <;> try (simp (maxSteps := 1000000) (disch := first | exact dq | fail) only [go_sem, eq_false cm, decide_false]))
        all_goals (try omega)
        ((first | with_reducible refine left_callMs [1, 2] (hB1) ?_ ?_ | with_reducible refine leftD_callMs [1, 2] rfl (hB1) ?_ ?_ | with_reducible refine leftD_callRs [1, 2] (by decide) (hB1) ?_ ?_); (· (simp (maxSteps := 1000000) (disch := first | exact dq | fail) only [go_sem])); try (simp (maxSteps := 1000000) (disch := first | exact dq | fail) only [go_sem]))
        ((with_reducible first | apply left_callf | apply leftD_callf | apply leftF_callf); (· with_reducible rfl); (· (simp (maxSteps := 1000000) (disch := first | exact dq | fail) only [go_sem]) <;> rfl); (· exact hPa); try (simp (maxSteps := 1000000) (disch := first | exact dq | fail) only [go_sem]))
        (repeat' (first | refine Nx.go ?_ | fail) <;> try (simp (maxSteps := 1000000) (disch := first | exact dq | fail) only [go_sem]))
        ((first | with_reducible refine left_callMs [1, 2] (hB2) ?_ ?_ | with_reducible refine leftD_callMs [1, 2] rfl (hB2) ?_ ?_ | with_reducible refine leftD_callRs [1, 2] (by decide) (hB2) ?_ ?_); (· (simp (maxSteps := 1000000) (disch := first | exact dq | fail) only [go_sem])); try (simp (maxSteps := 1000000) (disch := first | exact dq | fail) only [go_sem]))
        (repeat' (first | refine Nx.go ?_ | fail) <;> try (simp (maxSteps := 1000000) (disch := first | exact dq | fail) only [go_sem]))
        refine ⟨(g, d + d, pairL r (bydL r (jmpL t d) (-1))), ⟨z1', by dsimp only; omega, by dsimp only; omega, by dsimp only; rw [← hgo]; exact z4⟩, wk_by [0, 1, 2] ?_, by dsimp only; omega⟩
        (simp (maxSteps := 1000000) (disch := first | exact dq | fail) only [go_sem])
theorem xbwOrder_spec (t : Tr) (hl : t.nodes.length ≤ 1000000) (hn : t.names.length ≤ 1000000) : PCalls Try.prog 23 [trV t] (inl (ordL t)) := by
  have hR := ranks_spec t hl hn
  obtain ⟨k1, k2, k3⟩ := rksT_ok t
  have hlen : t.len = t.nodes.length := rfl
  have hmem : ∀ x ∈ rksT t, 0 ≤ x ∧ x < t.nodes.length := fun x hx => by
    obtain ⟨i, hi, rfl⟩ := List.getElem_of_mem hx
    rw [← getD_el hi]
    have := k2 i (by omega)
    omega
  have hSt := Stable_ok (rksT t) (max (t.nodes.length : Int) 1) (by omega) (fun x hx => by have := hmem x hx; unfold small; omega) (by
    unfold stabOk
    rw [Bool.and_eq_true, decide_eq_true_eq, Bool.not_eq_true', List.any_eq_false]
    refine ⟨by omega, fun x hx => ?_⟩
    have := hmem x hx
    unfold offK
    rw [decide_eq_false (by omega), decide_eq_false (by omega)]
    decide)
  have he : stabL (rksT t) = ordL t := by
    unfold stabL ordL
    rw [k1]
    refine stab_same (fun i j hi hj => ?_)
    rw [← k3 i j hi hj]
    have a1 := k2 i hi
    have a2 := k2 j hj
    unfold keyN
    omega
  rw [he] at hSt
  unfold trV at *
  refine PCalls.of_aw Try.func23 rfl (by unfold Callable; kernel_rfl) (by kernel_rfl) (by simp [Try.ntmps23]) ?_; rw [Try.ntmps23, Try.results23]; (simp (disch := first | exact dq | fail) only [go_sem])
  (repeat' (with_reducible first | refine Nx.go ?_ | refine rP ?_ | fail) <;> try (simp (disch := first | exact dq | fail) only [go_sem]))
  ((with_reducible first | apply left_callf | apply leftD_callf | apply leftF_callf); (· with_reducible rfl); (· (simp (disch := first | exact dq | fail) only [go_sem]) <;> rfl); (· exact hR); try (simp (disch := first | exact dq | fail) only [go_sem]))
  (repeat' (first | refine Nx.go ?_ | fail) <;> try (simp (disch := first | exact dq | fail) only [go_sem]))
  ((with_reducible first | apply left_callf | apply leftD_callf | apply leftF_callf); (· with_reducible rfl); (· (simp (disch := first | exact dq | fail) only [go_sem]) <;> rfl); (· exact hSt); try (simp (disch := first | exact dq | fail) only [go_sem]))
  (repeat' (first | refine Nx.go ?_ | fail) <;> try (simp (disch := first | exact dq | fail) only [go_sem]))
set_option maxHeartbeats 4000000 in
theorem RefOrder16_spec (t : Tr) (hl : t.nodes.length ≤ 1000000) (hn : t.names.length ≤ 1000000) : PCalls Try.prog 24 [trV t] (inl (ordL t)) := by
  have hU := fun i => RefUp15_spec t i hl hn
  have hUl := fun i => upT_len t i
  have hlen : t.len = t.nodes.length := rfl
  have hK := fun i j => @wK_iff t i j
  unfold ordL trV at *
  generalize wK16 t = K at *
  rw [hlen] at *
  refine PCalls.of_aw Try.func24 rfl (by unfold Callable; kernel_rfl) (by kernel_rfl) (by simp [Try.ntmps24]) ?_; rw [Try.ntmps24, Try.results24]; (simp (maxSteps := 1000000) (disch := first | exact dq | fail) only [go_sem])
  (repeat' (first | refine Nx.go ?_ | fail) <;> try (simp (maxSteps := 1000000) (disch := first | exact dq | fail) only [go_sem]))
  refine aw_loop (α := List Int × Nat) (fun x => ⟨49, sl [(1, .mp 0 0), (3, .msl 1 0 x.1.length x.1.length), (4, .iv (.int .i64 x.2))], [.var 25 [.iv (.sl 1 (t.names.map fun s => IV.str (bs s))), .iv (.sl 4 (t.nodes.map ndV))], .row true 3 1 (x.1.map (IV.int .i64))], 0⟩)
    (fun x => Laid K x.2 x.1 ∧ x.2 ≤ t.nodes.length) (fun x => t.nodes.length - x.2) ([], 0) (wk_by [0, 2] ?_) ⟨⟨rfl, fun p hp => by omega⟩, Nat.zero_le _⟩ ?_
  · (simp (maxSteps := 1000000) (disch := first | exact dq | fail) only [go_sem])
  rintro ⟨D, i⟩ ⟨hD, hi⟩
  dsimp only at hD hi
  have hDl := hD.len
  by_cases hlt : i < t.nodes.length
  · have g1 : (i : Int) < t.nodes.length := by omega
    have hk := cL_le K (K i + 1) i
    (repeat' (first | refine Nx.go ?_ | fail) <;> try (simp (maxSteps := 1000000) (disch := first | exact dq | fail) only [go_sem, g1, decide_true]))
    all_goals (try omega)
    refine aw_loop (α := Nat) (fun k => ⟨49, sl [(1, .mp 0 0), (3, .msl 1 0 D.length D.length), (4, .iv (.int .i64 i)), (5, .iv (.int .i64 k))], [.var 25 [.iv (.sl 1 (t.names.map fun s => IV.str (bs s))), .iv (.sl 4 (t.nodes.map ndV))], .row true 3 1 (D.map (IV.int .i64))], 0⟩)
      (fun k => cL K (K i + 1) i ≤ k ∧ k ≤ i) (fun k => k) D.length (wk_by [0, 1] ?_) ⟨by omega, by omega⟩ ?_
    · (simp (maxSteps := 1000000) (disch := first | exact dq | fail) only [go_sem])
    rintro k ⟨hk1, hk2⟩
    by_cases hkk : cL K (K i + 1) i < k
    · obtain ⟨q, e1, e2, e3⟩ := hD.at_ (k - 1) (by omega)
      have hgt : wl (upT t i) (upT t q) = true := by
        rcases Nat.lt_or_ge (K i) (K q) with hc | hc
        · exact (hK i q hlt (by omega)).1 hc
        · have := pos_low e2 hc; omega
      have hk1' : ((k : Int) - 1).toNat = k - 1 := by omega
      have c2 : (k : Int) > 0 := by omega
      have hL := RefLess7_spec (upT t i) (upT t q) (Nat.le_trans (hUl _) hl) (Nat.le_trans (hUl _) hl)
      rw [hgt] at hL
      (repeat' (with_reducible first | refine Nx.go ?_ | refine rP ?_ | fail) <;> try (simp (maxSteps := 1000000) (disch := first | exact dq | fail) only [go_sem, c2, decide_true]))
      all_goals (try omega)
      ((with_reducible first | apply left_callf | apply leftD_callf | apply leftF_callf); (· with_reducible rfl); (· (simp (maxSteps := 1000000) (disch := first | exact dq | fail) only [go_sem]) <;> rfl); (· exact hU i); try (simp (maxSteps := 1000000) (disch := first | exact dq | fail) only [go_sem]))
      (repeat' (with_reducible first | refine Nx.go ?_ | refine And.intro ?_ ?_ | fail) <;> try (simp (maxSteps := 1000000) (disch := first | exact dq | fail) only [go_sem, hk1', e1]))
      all_goals (try omega)
      ((with_reducible first | apply left_callf | apply leftD_callf | apply leftF_callf); (· with_reducible rfl); (· (simp (maxSteps := 1000000) (disch := first | exact dq | fail) only [go_sem]) <;> rfl); (· exact hU q); try (simp (maxSteps := 1000000) (disch := first | exact dq | fail) only [go_sem]))
      (repeat' (first | refine Nx.go ?_ | fail) <;> try (simp (maxSteps := 1000000) (disch := first | exact dq | fail) only [go_sem]))
      ((with_reducible first | apply left_callf | apply leftD_callf | apply leftF_callf); (· with_reducible rfl); (· (simp (maxSteps := 1000000) (disch := first | exact dq | fail) only [go_sem]) <;> rfl); (· exact hL); try (simp (maxSteps := 1000000) (disch := first | exact dq | fail) only [go_sem]))
      (repeat' (first | refine Nx.go ?_ | fail) <;> try (simp (maxSteps := 1000000) (disch := first | exact dq | fail) only [go_sem]))
      all_goals (try omega)
      refine ⟨k - 1, ⟨by omega, by omega⟩, wk_by [0, 1] ?_, by omega⟩
      (simp (maxSteps := 1000000) (disch := first | exact dq | fail) only [go_sem])
      congr 2; omega
    · obtain rfl : k = cL K (K i + 1) i := by omega
      have hD' := laid_succ hD
      have hil := insAt_len (D := D) (k := cL K (K i + 1) i) (i := i) (by omega)
      have hmap : (insAt D (cL K (K i + 1) i) i).map (IV.int .i64) = List.take (cL K (K i + 1) i) (D.map (IV.int .i64)) ++ (IV.int .i64 i :: List.drop (cL K (K i + 1) i) (D.map (IV.int .i64))) := by
        unfold insAt; rw [List.map_append, List.map_cons, List.map_take, List.map_drop]
      have hlow : ∀ q : Nat, q < i → posK K i q < cL K (K i + 1) i → wl (upT t i) (upT t q) = false := by
        intro q hq hp
        rcases Nat.lt_or_ge (K i) (K q) with hc | hc
        · have := pos_high hc; omega
        · have := hK i q hlt (by omega)
          cases hw : wl (upT t i) (upT t q) with
          | false => rfl
          | true => have := this.2 hw; omega
      generalize cL K (K i + 1) i = k at *
      have hdr : List.take (D.length - k) (List.drop k (D.map (IV.int .i64))) = List.drop k (D.map (IV.int .i64)) := List.take_of_length_le (by simp)
      have hdl : (List.drop k (D.map (IV.int .i64))).length = D.length - k := by rw [List.length_drop, List.length_map]
      have hle2 : k + 1 + min (D.length - k) (D.length - k) = D.length + 1 := by omega
      by_cases hk0 : 0 < k
      · obtain ⟨q, e1, e2, e3⟩ := hD.at_ (k - 1) (by omega)
        have hle := hlow q e2 (by omega)
        have hk1' : ((k : Int) - 1).toNat = k - 1 := by omega
        have c2 : (k : Int) > 0 := by omega
        have hL := RefLess7_spec (upT t i) (upT t q) (Nat.le_trans (hUl _) hl) (Nat.le_trans (hUl _) hl)
        rw [hle] at hL
        have htk : (List.take k (D.map (IV.int .i64))).length = k := by rw [List.length_take, List.length_map]; omega
        (repeat' (with_reducible first | refine Nx.go ?_ | refine rP ?_ | fail) <;> try (simp (maxSteps := 1000000) (disch := first | exact dq | fail) only [go_sem, c2, decide_true]))
        all_goals (try omega)
        ((with_reducible first | apply left_callf | apply leftD_callf | apply leftF_callf); (· with_reducible rfl); (· (simp (maxSteps := 1000000) (disch := first | exact dq | fail) only [go_sem]) <;> rfl); (· exact hU i); try (simp (maxSteps := 1000000) (disch := first | exact dq | fail) only [go_sem]))
        (repeat' (with_reducible first | refine Nx.go ?_ | refine And.intro ?_ ?_ | fail) <;> try (simp (maxSteps := 1000000) (disch := first | exact dq | fail) only [go_sem, hk1', e1]))
        all_goals (try omega)
        ((with_reducible first | apply left_callf | apply leftD_callf | apply leftF_callf); (· with_reducible rfl); (· (simp (maxSteps := 1000000) (disch := first | exact dq | fail) only [go_sem]) <;> rfl); (· exact hU q); try (simp (maxSteps := 1000000) (disch := first | exact dq | fail) only [go_sem]))
        (repeat' (first | refine Nx.go ?_ | fail) <;> try (simp (maxSteps := 1000000) (disch := first | exact dq | fail) only [go_sem]))
        ((with_reducible first | apply left_callf | apply leftD_callf | apply leftF_callf); (· with_reducible rfl); (· (simp (maxSteps := 1000000) (disch := first | exact dq | fail) only [go_sem]) <;> rfl); (· exact hL); try (simp (maxSteps := 1000000) (disch := first | exact dq | fail) only [go_sem]))
        (repeat' (with_reducible first | refine Nx.go ?_ | refine And.intro ?_ ?_ | fail) <;> try (simp (maxSteps := 1000000) (disch := first | exact dq | fail) only [go_sem, htk]))
        all_goals (try omega)
        rw [hdr, ← hmap]
        refine ⟨(insAt D k i, i + 1), ⟨hD', by dsimp only; omega⟩, wk_by [0, 2] ?_, by dsimp only; omega⟩
        (simp (maxSteps := 1000000) (disch := first | exact dq | fail) only [go_sem, hil])
        rw [hdl, hle2]
      · have htk : (List.take k (D.map (IV.int .i64))).length = k := by rw [List.length_take, List.length_map]; omega
        have c2 : ¬ (k : Int) > 0 := by omega
        (repeat' (with_reducible first | refine Nx.go ?_ | refine And.intro ?_ ?_ | fail) <;> try (simp (maxSteps := 1000000) (disch := first | exact dq | fail) only [go_sem, c2, decide_false, htk]))
        all_goals (try omega)
        rw [hdr, ← hmap]
        refine ⟨(insAt D k i, i + 1), ⟨hD', by dsimp only; omega⟩, wk_by [0, 2] ?_, by dsimp only; omega⟩
        (simp (maxSteps := 1000000) (disch := first | exact dq | fail) only [go_sem, hil])
        rw [hdl, hle2]
  · have g1 : ¬ (i : Int) < t.nodes.length := by omega
    have e : i = t.nodes.length := by omega
    subst e
    have := laid_eqG hD
    subst this
    (repeat' (first | refine Nx.go ?_ | fail) <;> try (simp (maxSteps := 1000000) (disch := first | exact dq | fail) only [go_sem, g1, decide_false]))
    all_goals (try omega)
end Go.Proofs.Ytnijpeeehnnipaa.AM
