
/- Chapter 16's document: Build. No condition but lengths that fit. -/
import Derived.Test.YtnijpeeehnnipaaYE
set_option linter.unusedVariables false
set_option linter.unusedSimpArgs false
set_option maxRecDepth 20000
namespace Go.Proofs.Ytnijpeeehnnipaa.AM
open Go Go.RowKit

def lastN (t : Tr) (i : Int) (m : Nat) : Bool := (List.range m).all (fun j => decide ((j : Int) ≤ i) || decide (parF t j ≠ parF t i))
def lastB (t : Tr) (i : Int) : Bool := lastN t i t.len
def leafB (t : Tr) (i : Int) : Bool := decide ((chT t i).length = 0)
def begN (t : Tr) (c : Int) (m : Nat) : Nat := (List.range m).countP (fun (i : Nat) => decide (parF t i < 0) || decide (symF t (parF t i) < c))
def begC (t : Tr) (c : Int) : Int := (begN t c t.len : Nat)
def rowsT (t : Tr) : Rw := ⟨ordL t, (ordL t).map (lastB t), (ordL t).map (symF t), (ordL t).map (leafB t), (List.range (2 * t.names.length + 2)).map (fun (c : Nat) => begC t c)⟩
def badT (t : Tr) : Bool := (ordL t).any (fun i => decide (symF t i < 0))
def bldF (t : Tr) : Rw × Bool := if badT t = true then (rw0, false) else (rowsT t, true)
theorem lastN_succ (t : Tr) (i : Int) (m : Nat) : lastN t i (m + 1) = (lastN t i m && (decide ((m : Int) ≤ i) || decide (parF t m ≠ parF t i))) := by
  unfold lastN
  rw [List.range_succ, List.all_append, List.all_cons, List.all_nil, Bool.and_true]
theorem lastN_low (t : Tr) (i : Nat) : lastN t i (i + 1) = true := by
  unfold lastN
  rw [List.all_eq_true]
  intro j hj
  have := List.mem_range.1 hj
  rw [decide_eq_true (by omega)]; rfl
theorem begN_succ (t : Tr) (c : Int) (m : Nat) : begN t c (m + 1) = begN t c m + (if (decide (parF t m < 0) || decide (symF t (parF t m) < c)) = true then 1 else 0) := by
  unfold begN
  rw [List.range_succ, List.countP_append, List.countP_cons, List.countP_nil, Nat.zero_add]
theorem begN_le (t : Tr) (c : Int) (m : Nat) : begN t c m ≤ m := by
  have := List.countP_le_length (p := fun (i : Nat) => decide (parF t i < 0) || decide (symF t (parF t i) < c)) (l := List.range m)
  rwa [List.length_range] at this
theorem ordL_mem (t : Tr) {x : Int} (h : x ∈ ordL t) : 0 ≤ x ∧ x < t.len := by
  have hp := allB_perm (stabG_all (wK16 t) t.len)
  rw [stabG_len] at hp
  obtain ⟨k, h1, h2⟩ := mem_idL.1 (hp.mem_iff.1 h)
  omega
theorem ordL_perm (t : Tr) : (ordL t).Perm (idL t.len) := by
  have hp := allB_perm (stabG_all (wK16 t) t.len)
  rwa [stabG_len] at hp
theorem takeM {α β : Type} (f : α → β) (l : List α) {k : Nat} {x : α} (h : l[k]? = some x) : (l.map f).take (k + 1) = (l.map f).take k ++ [f x] := by
  rw [List.take_add_one, List.getElem?_map, h]; rfl
@[go_sem] theorem zr_rows : List.mapM constIVcell [Value.slice none 0 0, Value.slice none 0 0, Value.slice none 0 0, Value.slice none 0 0, Value.slice none 0 0] = some [.sl 0 [], .sl 0 [], .sl 0 [], .sl 0 [], .sl 0 []] := rfl
theorem sq_rw0 (e : IV) : Sq (.tup [.agg [.sl 0 [], .sl 0 [], .sl 0 [], .sl 0 [], .sl 0 []], e]) (.tup [rwV rw0, e]) := Sq.tup ⟨Sq.agg ⟨Sq.nil 0 1, Sq.nil 0 1, Sq.nil 0 1, Sq.nil 0 1, Sq.nil 0 1, trivial⟩, Sq.refl _, trivial⟩
set_option maxHeartbeats 16000000 in
theorem RefBuild16_spec (t : Tr) (hl : t.nodes.length ≤ 1000000) (hn : t.names.length ≤ 1000000) : PCalls Try.prog 12 [trV t] (.tup [rwV (bldF t).1, .bool (bldF t).2]) := by
  have hP := fun i => RefParent15_spec t i hl
  have hS := fun i => RefSymbol15_spec t i hl hn
  have hC := fun i => RefChildren15_spec t i hl
  have hCl := fun i => chT_len t i
  have hO := RefOrder16_spec t hl hn
  have hlen : t.len = t.nodes.length := rfl
  have hOl := ordL_len t
  have hOm := fun x => @ordL_mem t x
  generalize hX : bldF t = X
  unfold bldF badT at hX
  unfold trV at *
  refine PCalls.of_awS Try.func12 rfl (by unfold Callable; kernel_rfl) (by kernel_rfl) (by simp [Try.ntmps12]) ?_; rw [Try.ntmps12, Try.results12]; (simp (maxSteps := 1000000) (disch := first | exact dq | fail) only [go_sem])
  (repeat' (first | refine Nx.go ?_ | fail) <;> try (simp (maxSteps := 1000000) (disch := first | exact dq | fail) only [go_sem]))
  ((with_reducible first | apply left_callf | apply leftD_callf | apply leftF_callf); (· with_reducible rfl); (· (simp (maxSteps := 1000000) (disch := first | exact dq | fail) only [go_sem]) <;> rfl); (· exact hO); try (simp (maxSteps := 1000000) (disch := first | exact dq | fail) only [go_sem]))
  (repeat' (first | refine Nx.go ?_ | fail) <;> try (simp (maxSteps := 1000000) (disch := first | exact dq | fail) only [go_sem]))
  all_goals (try omega)
  refine aw_wk (wk_ownc 4 1 2 1 (T' := 31) (cs := [.iv (inl (ordL t)), .nilsl, .nilsl, .nilsl, .nilsl]) rfl rfl) ?_
  refine aw_wk (wk_ownc 3 1 2 2 (T' := 31) (cs := [.iv (inl (ordL t)), .msl 3 0 0 0, .nilsl, .nilsl, .nilsl]) rfl rfl) ?_
  refine aw_wk (wk_ownc 4 1 2 3 (T' := 31) (cs := [.iv (inl (ordL t)), .msl 3 0 0 0, .msl 4 0 0 0, .nilsl, .nilsl]) rfl rfl) ?_
  generalize hO2 : ordL t = O at *
  refine aw_postE (β := Unit) (fun _ => ⟨113, sl [(1, .mp 0 0), (2, .mp 1 0), (4, .mp 2 0)], [.var 25 [.iv (.sl 1 (t.names.map fun s => IV.str (bs s))), .iv (.sl 4 (t.nodes.map ndV))], .var 31 [.nilsl, .nilsl, .nilsl, .nilsl, .nilsl], .var 31 [.iv (inl O), .msl 3 0 t.nodes.length t.nodes.length, .msl 4 0 t.nodes.length t.nodes.length, .msl 5 0 t.nodes.length t.nodes.length, .nilsl],
      .row true 4 1 ((O.map (lastB t)).map IV.bool), .row true 3 1 ((O.map (symF t)).map (IV.int .i64)), .row true 4 1 ((O.map (leafB t)).map IV.bool)], 0⟩) (fun _ => ∀ q, q < t.nodes.length → 0 ≤ symF t (O.getD q 0)) ?_ ?_
  · refine aw_loop (α := Nat) (fun k => ⟨113, sl [(1, .mp 0 0), (2, .mp 1 0), (4, .mp 2 0), (5, .iv (.int .i64 k))], [.var 25 [.iv (.sl 1 (t.names.map fun s => IV.str (bs s))), .iv (.sl 4 (t.nodes.map ndV))], .var 31 [.nilsl, .nilsl, .nilsl, .nilsl, .nilsl], .var 31 [.iv (inl O), .msl 3 0 k k, .msl 4 0 k k, .msl 5 0 k k, .nilsl],
      .row true 4 1 (((O.map (lastB t)).take k).map IV.bool), .row true 3 1 (((O.map (symF t)).take k).map (IV.int .i64)), .row true 4 1 (((O.map (leafB t)).take k).map IV.bool)], 0⟩)
      (fun k => k ≤ t.nodes.length ∧ ∀ q, q < k → 0 ≤ symF t (O.getD q 0)) (fun k => t.nodes.length - k) 0 (wk_by [0, 1, 2, 3, 4, 5] ?_) ⟨by omega, fun q hq => by omega⟩ ?_
    · (simp (maxSteps := 1000000) (disch := first | exact dq | fail) only [go_sem])
      try exact ⟨rfl, rfl, rfl⟩
    rintro k ⟨hk, hno⟩
    by_cases g : k < t.nodes.length
    · have g1 : (k : Int) < t.nodes.length := by omega
      have g2 : (k : Int) < O.length := by omega
      obtain ⟨i, hi⟩ : ∃ i : Nat, O.getD k 0 = i := ⟨(O.getD k 0).toNat, by have := hOm (O.getD k 0) (getD_mem (by omega)); omega⟩
      have hil : i < t.nodes.length := by have := hOm (O.getD k 0) (getD_mem (by omega)); omega
      have hg : O[k]? = some (i : Int) := by rw [← hi]; simp [List.getD, List.getElem?_eq_getElem (show k < O.length by omega)]
      by_cases c : symF t i < 0
      · have hany : O.any (fun i => decide (symF t i < 0)) = true := List.any_eq_true.2 ⟨(i : Int), List.mem_of_getElem? hg, decide_eq_true c⟩
        rw [if_pos hany] at hX
        subst hX
        (repeat' (with_reducible first | refine Nx.go ?_ | refine And.intro ?_ ?_ | fail) <;> try (simp (maxSteps := 1000000) (disch := first | exact dq | fail) only [go_sem, g2, hg, decide_true]))
        all_goals (try omega)
        ((with_reducible first | apply left_callf | apply leftD_callf | apply leftF_callf); (· with_reducible rfl); (· (simp (maxSteps := 1000000) (disch := first | exact dq | fail) only [go_sem]) <;> rfl); (· exact hS i); try (simp (maxSteps := 1000000) (disch := first | exact dq | fail) only [go_sem]))
        (repeat' (first | refine Nx.go ?_ | fail) <;> try (simp (maxSteps := 1000000) (disch := first | exact dq | fail) only [go_sem, eq_true c, decide_true]))
        all_goals (try omega)
        exact sq_rw0 _
      · have t1 := takeM (lastB t) O hg
        have t2 := takeM (symF t) O hg
        have t3 := takeM (leafB t) O hg
        have l1 : ((O.map (lastB t)).take k).length = k := by rw [List.length_take, List.length_map]; omega
        have l2 : ((O.map (symF t)).take k).length = k := by rw [List.length_take, List.length_map]; omega
        have l3 : ((O.map (leafB t)).take k).length = k := by rw [List.length_take, List.length_map]; omega
        generalize hE1 : (O.map (lastB t)).take k = R1 at *
        generalize hE2 : (O.map (symF t)).take k = R2 at *
        generalize hE3 : (O.map (leafB t)).take k = R3 at *
        (repeat' (with_reducible first | refine Nx.go ?_ | refine And.intro ?_ ?_ | fail) <;> try (simp (maxSteps := 1000000) (disch := first | exact dq | fail) only [go_sem, g2, hg, decide_true]))
        all_goals (try omega)
        ((with_reducible first | apply left_callf | apply leftD_callf | apply leftF_callf); (· with_reducible rfl); (· (simp (maxSteps := 1000000) (disch := first | exact dq | fail) only [go_sem]) <;> rfl); (· exact hS i); try (simp (maxSteps := 1000000) (disch := first | exact dq | fail) only [go_sem]))
        (repeat' (first | refine Nx.go ?_ | fail) <;> try (simp (maxSteps := 1000000) (disch := first | exact dq | fail) only [go_sem, eq_false c, decide_false]))
        all_goals (try omega)
        refine aw_loop (α := Nat) (fun j => ⟨113, sl [(1, .mp 0 0), (2, .mp 1 0), (4, .mp 2 0), (5, .iv (.int .i64 k)), (6, .iv (.int .i64 i)), (7, .iv (.int .i64 (symF t i))), (8, .iv (.bool (lastN t i j))), (9, .iv (.int .i64 j))], [.var 25 [.iv (.sl 1 (t.names.map fun s => IV.str (bs s))), .iv (.sl 4 (t.nodes.map ndV))], .var 31 [.nilsl, .nilsl, .nilsl, .nilsl, .nilsl], .var 31 [.iv (inl O), .msl 3 0 k k, .msl 4 0 k k, .msl 5 0 k k, .nilsl], .row true 4 1 (R1.map IV.bool), .row true 3 1 (R2.map (IV.int .i64)), .row true 4 1 (R3.map IV.bool)], 0⟩)
          (fun j => i + 1 ≤ j ∧ j ≤ t.nodes.length) (fun j => t.nodes.length - j) (i + 1) (wk_by [0, 1, 2, 3, 4, 5] ?_) ⟨Nat.le_refl _, hil⟩ ?_
        · (simp (maxSteps := 1000000) (disch := first | exact dq | fail) only [go_sem, lastN_low])
          try rfl
        rintro j ⟨hj1, hj2⟩
        by_cases gj : j < t.nodes.length
        · have g3 : (j : Int) < t.nodes.length := by omega
          have hls := lastN_succ t i j
          rw [decide_eq_false (show ¬ ((j : Int) ≤ i) by omega), Bool.false_or] at hls
          cases hb : lastN t i j with
          | false =>
            rw [hb, Bool.false_and] at hls
            (repeat' (with_reducible first | refine Nx.go ?_ | refine rP ?_ | fail) <;> try (simp (maxSteps := 1000000) (disch := first | exact dq | fail) only [go_sem, g3, decide_true]))
            all_goals (try omega)
            refine ⟨j + 1, ⟨by omega, by omega⟩, wk_by [0, 1, 2, 3, 4, 5] ?_, by omega⟩
            (simp (maxSteps := 1000000) (disch := first | exact dq | fail) only [go_sem, hls])
          | true =>
            rw [hb, Bool.true_and] at hls
            (repeat' (with_reducible first | refine Nx.go ?_ | refine rP ?_ | fail) <;> try (simp (maxSteps := 1000000) (disch := first | exact dq | fail) only [go_sem, g3, decide_true]))
            all_goals (try omega)
            ((with_reducible first | apply left_callf | apply leftD_callf | apply leftF_callf); (· with_reducible rfl); (· (simp (maxSteps := 1000000) (disch := first | exact dq | fail) only [go_sem]) <;> rfl); (· exact hP j); try (simp (maxSteps := 1000000) (disch := first | exact dq | fail) only [go_sem]))
            (repeat' (first | refine Nx.go ?_ | fail) <;> try (simp (maxSteps := 1000000) (disch := first | exact dq | fail) only [go_sem]))
            ((with_reducible first | apply left_callf | apply leftD_callf | apply leftF_callf); (· with_reducible rfl); (· (simp (maxSteps := 1000000) (disch := first | exact dq | fail) only [go_sem]) <;> rfl); (· exact hP i); try (simp (maxSteps := 1000000) (disch := first | exact dq | fail) only [go_sem]))
            (repeat' (first | refine Nx.go ?_ | fail) <;> try (simp (maxSteps := 1000000) (disch := first | exact dq | fail) only [go_sem]))
            all_goals (try omega)
            all_goals (
              refine ⟨j + 1, ⟨by omega, by omega⟩, wk_by [0, 1, 2, 3, 4, 5] ?_, by omega⟩
              (simp (maxSteps := 1000000) (disch := first | exact dq | fail) only [go_sem, hls]))
        · obtain rfl : j = t.nodes.length := by omega
          have g3 : ¬ (t.nodes.length : Int) < t.nodes.length := by omega
          have hLB : lastN t i t.nodes.length = lastB t i := rfl
          rw [hLB]
          have hlf : leafB t i = decide (((chT t i).length : Int) = 0) := by unfold leafB; exact decide_eq_decide.2 (by omega)
          have hcl := hCl i
          have hci := hC i
          rw [hlf] at t3
          generalize lastB t i = lb at *
          generalize chT t i = ch at *
          (repeat' (with_reducible first | refine Nx.go ?_ | (refine aw_regionD cwF mixed ?_ (dops_runF ?_); (· kernel_rfl)) | refine And.intro ?_ ?_ | fail) <;> try (simp (maxSteps := 1000000) (disch := first | exact dq | fail) only [go_sem, g3, decide_false, l1, l2, l3]))
          all_goals (try omega)
          ((with_reducible first | apply left_callf | apply leftD_callf | apply leftF_callf); (· with_reducible rfl); (· (simp (maxSteps := 1000000) (disch := first | exact dq | fail) only [go_sem]) <;> rfl); (· exact hci); try (simp (maxSteps := 1000000) (disch := first | exact dq | fail) only [go_sem]))
          (repeat' (with_reducible first | refine Nx.go ?_ | refine And.intro ?_ ?_ | fail) <;> try (simp (maxSteps := 1000000) (disch := first | exact dq | fail) only [go_sem, l1, l2, l3]))
          all_goals (try omega)
          all_goals (
            refine ⟨k + 1, ⟨by omega, fun q hq => ?_⟩, wk_by [0, 1, 2, 3, 4, 5] ?_, by omega⟩
            · by_cases e : q = k
              · subst e; rw [hi]; omega
              · exact hno q (by omega)
            · (simp (maxSteps := 1000000) (disch := first | exact dq | fail) only [go_sem, t1, t2, t3, List.map_append]))
    · obtain rfl : k = t.nodes.length := by omega
      have g2 : ¬ (t.nodes.length : Int) < O.length := by omega
      have e1 : (O.map (lastB t)).take t.nodes.length = O.map (lastB t) := List.take_of_length_le (by rw [List.length_map]; omega)
      have e2 : (O.map (symF t)).take t.nodes.length = O.map (symF t) := List.take_of_length_le (by rw [List.length_map]; omega)
      have e3 : (O.map (leafB t)).take t.nodes.length = O.map (leafB t) := List.take_of_length_le (by rw [List.length_map]; omega)
      (repeat' (first | refine Nx.go ?_ | fail) <;> try (simp (maxSteps := 1000000) (disch := first | exact dq | fail) only [go_sem, g2, decide_false]))
      all_goals (try omega)
      refine ⟨(), hno, wk_by [0, 1, 2, 3, 4, 5] ?_⟩
      (simp (maxSteps := 1000000) (disch := first | exact dq | fail) only [go_sem, e1, e2, e3])
  · rintro _ hno
    have hany : ¬ O.any (fun i => decide (symF t i < 0)) = true := by
      rw [List.any_eq_true]
      rintro ⟨x, hx, h⟩
      obtain ⟨q, hq, rfl⟩ := List.getElem_of_mem hx
      have := hno q (by omega)
      rw [getD_el hq] at this
      rw [decide_eq_true_eq] at h
      omega
    rw [if_neg hany] at hX
    subst hX
    unfold rwV rowsT blsV
    rw [hO2]
    dsimp only
    have l1 : (O.map (lastB t)).length = t.nodes.length := by rw [List.length_map]; omega
    have l2 : (O.map (symF t)).length = t.nodes.length := by rw [List.length_map]; omega
    have l3 : (O.map (leafB t)).length = t.nodes.length := by rw [List.length_map]; omega
    generalize O.map (lastB t) = RL at *
    generalize O.map (symF t) = RS at *
    generalize O.map (leafB t) = RF at *
    have hBg : ∀ c : Nat, c < 2 * t.names.length + 2 → ((List.range (2 * t.names.length + 2)).map (fun (c : Nat) => begC t c)).take (c + 1) = ((List.range (2 * t.names.length + 2)).map (fun (c : Nat) => begC t c)).take c ++ [begC t c] := fun c hc => by
      rw [takeM (fun (c : Nat) => begC t c) (List.range (2 * t.names.length + 2)) (x := c) (by simp [hc])]
    have hBl : ((List.range (2 * t.names.length + 2)).map (fun (c : Nat) => begC t c)).length = 2 * t.names.length + 2 := by simp
    generalize (List.range (2 * t.names.length + 2)).map (fun (c : Nat) => begC t c) = B at *
    (repeat' (first | refine Nx.go ?_ | fail) <;> try (simp (maxSteps := 1000000) (disch := first | exact dq | fail) only [go_sem]))
    refine aw_wk (wk_ownc 3 1 2 4 (T' := 31) (cs := [.iv (inl O), .msl 3 0 t.nodes.length t.nodes.length, .msl 4 0 t.nodes.length t.nodes.length, .msl 5 0 t.nodes.length t.nodes.length, .nilsl]) rfl rfl) ?_
    refine aw_loop (α := Nat) (fun c => ⟨113, sl [(1, .mp 0 0), (2, .mp 1 0), (4, .mp 2 0), (10, .iv (.int .i64 c))], [.var 25 [.iv (.sl 1 (t.names.map fun s => IV.str (bs s))), .iv (.sl 4 (t.nodes.map ndV))], .var 31 [.nilsl, .nilsl, .nilsl, .nilsl, .nilsl], .var 31 [.iv (inl O), .msl 3 0 t.nodes.length t.nodes.length, .msl 4 0 t.nodes.length t.nodes.length, .msl 5 0 t.nodes.length t.nodes.length, .msl 6 0 c c], .row true 4 1 (RL.map IV.bool), .row true 3 1 (RS.map (IV.int .i64)), .row true 4 1 (RF.map IV.bool), .row true 3 1 ((B.take c).map (IV.int .i64))], 0⟩)
      (fun c => c ≤ 2 * t.names.length + 2) (fun c => 2 * t.names.length + 2 - c) 0 (wk_by [0, 1, 2, 3, 4, 5, 6] ?_) (by omega) ?_
    · (simp (maxSteps := 1000000) (disch := first | exact dq | fail) only [go_sem])
      try exact ⟨rfl, rfl⟩
    rintro c hc
    by_cases g : c < 2 * t.names.length + 2
    · have g1 : (c : Int) ≤ 2 * t.names.length + 1 := by omega
      have hBc := hBg c g
      have hcl : (B.take c).length = c := by rw [List.length_take]; omega
      generalize B.take c = R at *
      (repeat' (first | refine Nx.go ?_ | fail) <;> try (simp (maxSteps := 1000000) (disch := first | exact dq | fail) only [go_sem, g1, decide_true]))
      all_goals (try omega)
      refine aw_loop (α := Nat) (fun i => ⟨113, sl [(1, .mp 0 0), (2, .mp 1 0), (4, .mp 2 0), (10, .iv (.int .i64 c)), (11, .iv (.int .i64 (begN t c i))), (12, .iv (.int .i64 i))], [.var 25 [.iv (.sl 1 (t.names.map fun s => IV.str (bs s))), .iv (.sl 4 (t.nodes.map ndV))], .var 31 [.nilsl, .nilsl, .nilsl, .nilsl, .nilsl], .var 31 [.iv (inl O), .msl 3 0 t.nodes.length t.nodes.length, .msl 4 0 t.nodes.length t.nodes.length, .msl 5 0 t.nodes.length t.nodes.length, .msl 6 0 c c], .row true 4 1 (RL.map IV.bool), .row true 3 1 (RS.map (IV.int .i64)), .row true 4 1 (RF.map IV.bool), .row true 3 1 (R.map (IV.int .i64))], 0⟩)
        (fun i => i ≤ t.nodes.length) (fun i => t.nodes.length - i) 0 (wk_by [0, 1, 2, 3, 4, 5, 6] ?_) (by omega) ?_
      · (simp (maxSteps := 1000000) (disch := first | exact dq | fail) only [go_sem])
        try rfl
      rintro i hi
      by_cases h : i < t.nodes.length
      · have g3 : (i : Int) < t.nodes.length := by omega
        have hbs := begN_succ t c i
        have hbl := begN_le t c i
        by_cases c1 : parF t i < 0
        · rw [decide_eq_true c1, Bool.true_or, if_pos rfl] at hbs
          (repeat' (first | refine Nx.go ?_ | fail) <;> try (simp (maxSteps := 1000000) (disch := first | exact dq | fail) only [go_sem, g3, decide_true]))
          all_goals (try omega)
          ((with_reducible first | apply left_callf | apply leftD_callf | apply leftF_callf); (· with_reducible rfl); (· (simp (maxSteps := 1000000) (disch := first | exact dq | fail) only [go_sem]) <;> rfl); (· exact hP i); try (simp (maxSteps := 1000000) (disch := first | exact dq | fail) only [go_sem]))
          (repeat' (first | refine Nx.go ?_ | fail) <;> try (simp (maxSteps := 1000000) (disch := first | exact dq | fail) only [go_sem, eq_true c1, decide_true]))
          all_goals (try omega)
          refine ⟨i + 1, by omega, wk_by [0, 1, 2, 3, 4, 5, 6] ?_, by omega⟩
          (simp (maxSteps := 1000000) (disch := first | exact dq | fail) only [go_sem, hbs])
          try rfl
        · rw [decide_eq_false c1, Bool.false_or] at hbs
          by_cases c2 : symF t (parF t i) < c
          · rw [decide_eq_true c2, if_pos rfl] at hbs
            (repeat' (first | refine Nx.go ?_ | fail) <;> try (simp (maxSteps := 1000000) (disch := first | exact dq | fail) only [go_sem, g3, decide_true]))
            all_goals (try omega)
            ((with_reducible first | apply left_callf | apply leftD_callf | apply leftF_callf); (· with_reducible rfl); (· (simp (maxSteps := 1000000) (disch := first | exact dq | fail) only [go_sem]) <;> rfl); (· exact hP i); try (simp (maxSteps := 1000000) (disch := first | exact dq | fail) only [go_sem]))
            (repeat' (first | refine Nx.go ?_ | fail) <;> try (simp (maxSteps := 1000000) (disch := first | exact dq | fail) only [go_sem, eq_false c1, decide_false]))
            all_goals (try omega)
            ((with_reducible first | apply left_callf | apply leftD_callf | apply leftF_callf); (· with_reducible rfl); (· (simp (maxSteps := 1000000) (disch := first | exact dq | fail) only [go_sem]) <;> rfl); (· exact hS _); try (simp (maxSteps := 1000000) (disch := first | exact dq | fail) only [go_sem]))
            (repeat' (first | refine Nx.go ?_ | fail) <;> try (simp (maxSteps := 1000000) (disch := first | exact dq | fail) only [go_sem, eq_true c2, decide_true]))
            all_goals (try omega)
            refine ⟨i + 1, by omega, wk_by [0, 1, 2, 3, 4, 5, 6] ?_, by omega⟩
            (simp (maxSteps := 1000000) (disch := first | exact dq | fail) only [go_sem, hbs])
            try rfl
          · rw [decide_eq_false c2, if_neg (by decide), Nat.add_zero] at hbs
            (repeat' (first | refine Nx.go ?_ | fail) <;> try (simp (maxSteps := 1000000) (disch := first | exact dq | fail) only [go_sem, g3, decide_true]))
            all_goals (try omega)
            ((with_reducible first | apply left_callf | apply leftD_callf | apply leftF_callf); (· with_reducible rfl); (· (simp (maxSteps := 1000000) (disch := first | exact dq | fail) only [go_sem]) <;> rfl); (· exact hP i); try (simp (maxSteps := 1000000) (disch := first | exact dq | fail) only [go_sem]))
            (repeat' (first | refine Nx.go ?_ | fail) <;> try (simp (maxSteps := 1000000) (disch := first | exact dq | fail) only [go_sem, eq_false c1, decide_false]))
            all_goals (try omega)
            ((with_reducible first | apply left_callf | apply leftD_callf | apply leftF_callf); (· with_reducible rfl); (· (simp (maxSteps := 1000000) (disch := first | exact dq | fail) only [go_sem]) <;> rfl); (· exact hS _); try (simp (maxSteps := 1000000) (disch := first | exact dq | fail) only [go_sem]))
            (repeat' (first | refine Nx.go ?_ | fail) <;> try (simp (maxSteps := 1000000) (disch := first | exact dq | fail) only [go_sem, eq_false c2, decide_false]))
            all_goals (try omega)
            refine ⟨i + 1, by omega, wk_by [0, 1, 2, 3, 4, 5, 6] ?_, by omega⟩
            (simp (maxSteps := 1000000) (disch := first | exact dq | fail) only [go_sem, hbs])
            try rfl
      · obtain rfl : i = t.nodes.length := by omega
        have g3 : ¬ (t.nodes.length : Int) < t.nodes.length := by omega
        have e0 : ((begN t c t.nodes.length : Nat) : Int) = begC t c := rfl
        rw [e0]
        (repeat' (with_reducible first | refine Nx.go ?_ | refine And.intro ?_ ?_ | fail) <;> try (simp (maxSteps := 1000000) (disch := first | exact dq | fail) only [go_sem, g3, decide_false, hcl]))
        all_goals (try omega)
        refine ⟨c + 1, by omega, wk_by [0, 1, 2, 3, 4, 5, 6] ?_, by omega⟩
        (simp (maxSteps := 1000000) (disch := first | exact dq | fail) only [go_sem, hBc, List.map_append])
        try rfl
    · obtain rfl : c = 2 * t.names.length + 2 := by omega
      have g1 : ¬ (((2 * t.names.length + 2 : Nat) : Int) ≤ 2 * t.names.length + 1) := by omega
      have e1 : B.take (2 * t.names.length + 2) = B := List.take_of_length_le (by omega)
      rw [e1]
      have k1 : List.take t.nodes.length (RL.map IV.bool) = RL.map IV.bool := List.take_of_length_le (by rw [List.length_map]; omega)
      have k2 : List.take t.nodes.length (RS.map (IV.int .i64)) = RS.map (IV.int .i64) := List.take_of_length_le (by rw [List.length_map]; omega)
      have k3 : List.take t.nodes.length (RF.map IV.bool) = RF.map IV.bool := List.take_of_length_le (by rw [List.length_map]; omega)
      have k4 : List.take (2 * t.names.length + 2) (B.map (IV.int .i64)) = B.map (IV.int .i64) := List.take_of_length_le (by rw [List.length_map]; omega)
      (repeat' first
  | ((first | refine Nx.go ?_ | fail) <;> try (simp (maxSteps := 1000000) (disch := first | exact dq | fail) only [go_sem, g1, decide_false, k1, k2, k3, k4, l1, l2, l3, hBl, Nat.le_refl, if_true]))
  | ((with_reducible refine Sp.go ?_ ?_) <;> intro h <;> (try (simp (maxSteps := 1000000) (disch := first | exact dq | fail) only [go_sem] at h)) <;> try (simp (maxSteps := 1000000) (disch := first | exact dq | fail) only [go_sem, h, g1, decide_false, k1, k2, k3, k4, l1, l2, l3, hBl, Nat.le_refl, if_true])) | fail)
      all_goals (try omega)
      all_goals (first | exact ⟨_, rfl, Sq.refl _⟩ | exact Sq.refl _)
end Go.Proofs.Ytnijpeeehnnipaa.AM
