
/- Chapter 13's document: limited. No condition but lengths that fit, and that each parent stands ahead. -/
import Derived.Test.YtnijpeeehnnipaaXC
import Derived.Test.YtnijpeeehnnipaaXT
set_option linter.unusedVariables false
set_option linter.unusedSimpArgs false
set_option maxRecDepth 20000
namespace Go.Proofs.Ytnijpeeehnnipaa.AM
open Go Go.RowKit

@[go_sem] theorem zr_nd : List.mapM constIVcell [Value.int IntKind.i64 0, Value.int IntKind.i64 0, Value.int IntKind.i64 0, Value.string (bs [])] = some [.int .i64 0, .int .i64 0, .int .i64 0, .str (bs [])] := rfl
def nmV (x : Nm) : IV := .agg [.int .i64 x.kind, .int .i64 x.num, .int .i64 x.par, .str (bs x.val), .str (bs x.name)]
def nmsV (l : List Nm) : IV := .sl 5 (l.map nmV)
def dpF (ns : List Nm) : Nat → List Int
  | 0 => []
  | i + 1 => dpF ns i ++ [if 0 ≤ (ns.getD i nm0).par then (dpF ns i).getD (ns.getD i nm0).par.toNat 0 + 1 else 0]
theorem dpF_len (ns : List Nm) : ∀ i, (dpF ns i).length = i
  | 0 => rfl
  | i + 1 => by rw [dpF, List.length_append, dpF_len ns i]; rfl
theorem dpF_bd (ns : List Nm) : ∀ i j, 0 ≤ (dpF ns i).getD j 0 ∧ (dpF ns i).getD j 0 ≤ i
  | 0, j => by simp [dpF]
  | i + 1, j => by
    have ih := dpF_bd ns i
    have hl := dpF_len ns i
    rw [dpF]
    by_cases h : j < i
    · have : (dpF ns i ++ [if 0 ≤ (ns.getD i nm0).par then (dpF ns i).getD (ns.getD i nm0).par.toNat 0 + 1 else 0]).getD j 0 = (dpF ns i).getD j 0 := by
        rw [List.getD, List.getElem?_append_left (by omega)]; rfl
      rw [this]
      have := ih j
      omega
    · by_cases e : j = i
      · subst e
        rw [List.getD, List.getElem?_append_right (by omega), hl, Nat.sub_self]
        have := ih (ns.getD j nm0).par.toNat
        simp only [List.getElem?_cons_zero, Option.getD_some]
        split <;> omega
      · rw [List.getD, List.getElem?_eq_none (by rw [List.length_append, hl, List.length_singleton]; omega)]
        simp; omega
def nmsF (ns : List Nm) : Nat → List Str
  | 0 => []
  | i + 1 => if (ns.getD i nm0).kind = 3 then nmsF ns i else withF (nmsF ns i) (ns.getD i nm0).name
theorem withG_len (s : Str) : ∀ l, (withG s l).length ≤ l.length + 1
  | [] => by simp [withG]
  | x :: l => by
    rw [withG]
    split
    · simp
    · have := withG_len s l
      simp; omega
theorem nmsF_len (ns : List Nm) : ∀ i, (nmsF ns i).length ≤ i
  | 0 => Nat.le_refl _
  | i + 1 => by
    have ih := nmsF_len ns i
    rw [nmsF]
    split
    · omega
    · unfold withF
      split
      · omega
      · have := withG_len (ns.getD i nm0).name (nmsF ns i); omega
def deepF (ns : List Nm) (i : Nat) : Bool := decide ((ns.getD i nm0).kind = 1) && decide (64 < (dpF ns (i + 1)).getD i 0)
def ndOf (w : List Str) (x : Nm) : Nd := ⟨x.kind, if x.kind = 3 then x.num else numbF w x.name, x.par, x.val⟩
def limF (ns : List Nm) : Tr × Int :=
  if 5000 < ns.length then (tr0, 18) else if (List.range ns.length).any (deepF ns) = true then (tr0, 18) else if 1000 < (nmsF ns ns.length).length then (tr0, 18)
  else (⟨nmsF ns ns.length, ns.map (ndOf (nmsF ns ns.length))⟩, 0)
theorem getN {l : List Nm} {i : Nat} (h : i < l.length) : l[i]? = some (l.getD i nm0) := by simp [List.getD, List.getElem?_eq_getElem h]
theorem sq_tr0 (e : Int) : Sq (.tup [.agg [.sl 0 [], .sl 0 []], .int .i64 e]) (.tup [.agg [.sl 1 [], .sl 4 []], .int .i64 e]) := Sq.tup ⟨Sq.agg ⟨Sq.nil 0 1, Sq.nil 0 4, trivial⟩, Sq.refl _, trivial⟩
set_option maxHeartbeats 8000000 in
theorem limited_spec (ns : List Nm) (hl : ns.length ≤ 1000000) (hp : ∀ i, i < ns.length → (ns.getD i nm0).par < i) : PCalls Try.prog 33 [nmsV ns] (.tup [trV (limF ns).1, .int .i64 (limF ns).2]) := by
  unfold limF nmsV
  by_cases c1 : 5000 < ns.length
  · have c1' : (ns.length : Int) > 5000 := by omega
    rw [if_pos c1]
    unfold trV tr0
    refine PCalls.of_awS Try.func33 rfl (by unfold Callable; kernel_rfl) (by kernel_rfl) (by simp [Try.ntmps33]) ?_; rw [Try.ntmps33, Try.results33]; (simp (maxSteps := 1000000) (disch := first | exact dq | fail) only [go_sem])
    (repeat' (first | refine Nx.go ?_ | fail) <;> try (simp (maxSteps := 1000000) (disch := first | exact dq | fail) only [go_sem, c1', decide_true]))
    all_goals (try omega)
    exact sq_tr0 18
  have c1' : ¬ (ns.length : Int) > 5000 := by omega
  rw [if_neg c1]
  generalize hX : (if (List.range ns.length).any (deepF ns) = true then (tr0, (18 : Int)) else if 1000 < (nmsF ns ns.length).length then (tr0, 18) else (⟨nmsF ns ns.length, ns.map (ndOf (nmsF ns ns.length))⟩, 0)) = X
  refine PCalls.of_awS Try.func33 rfl (by unfold Callable; kernel_rfl) (by kernel_rfl) (by simp [Try.ntmps33]) ?_; rw [Try.ntmps33, Try.results33]; (simp (maxSteps := 1000000) (disch := first | exact dq | fail) only [go_sem])
  (repeat' (first | refine Nx.go ?_ | fail) <;> try (simp (maxSteps := 1000000) (disch := first | exact dq | fail) only [go_sem, c1', decide_false]))
  all_goals (try omega)
  refine aw_postE (β := Unit) (fun _ => ⟨94, sl [(0, .iv (.sl 5 (ns.map nmV))), (2, .mp 0 0), (4, .mp 1 0)], [.var 25 [.nilsl, .nilsl], .var 25 [.iv (strsV (nmsF ns ns.length)), .nilsl]], 0⟩) (fun _ => ∀ j, j < ns.length → deepF ns j = false) ?_ ?_
  · refine aw_loop (α := Nat) (fun i => ⟨94, sl [(0, .iv (.sl 5 (ns.map nmV))), (2, .mp 0 0), (4, .mp 1 0), (5, .msl 2 0 i i), (6, .iv (.int .i64 i))], [.var 25 [.nilsl, .nilsl], .var 25 [.iv (strsV (nmsF ns i)), .nilsl], .row true 3 1 ((dpF ns i).map (IV.int .i64))], 0⟩)
      (fun i => i ≤ ns.length ∧ ∀ j, j < i → deepF ns j = false) (fun i => ns.length - i) 0 ((wk_ivc 1 1 0 rfl rfl).trans (wk_by [0, 1, 2] ?_)) ⟨by omega, fun j hj => by omega⟩ ?_
    · (simp (maxSteps := 1000000) (disch := first | exact dq | fail) only [go_sem])
      try exact ⟨rfl, rfl⟩
    rintro i ⟨hi, hno⟩
    have hdl := dpF_len ns i
    by_cases g : i < ns.length
    · have g1 : (i : Int) < ns.length := by omega
      have hg := getN g
      have hpi := hp i g
      have hbd := dpF_bd ns i
      have hds : dpF ns (i + 1) = dpF ns i ++ [if 0 ≤ (ns.getD i nm0).par then (dpF ns i).getD (ns.getD i nm0).par.toNat 0 + 1 else 0] := rfl
      have hns : nmsF ns (i + 1) = if (ns.getD i nm0).kind = 3 then nmsF ns i else withF (nmsF ns i) (ns.getD i nm0).name := rfl
      have hnl := nmsF_len ns i
      have hde : deepF ns i = (decide ((ns.getD i nm0).kind = 1) && decide (64 < (dpF ns (i + 1)).getD i 0)) := rfl
      have hlast : ∀ z, (dpF ns i ++ [z]).getD i 0 = z := fun z => by rw [List.getD, List.getElem?_append_right (by omega), hdl, Nat.sub_self]; rfl
      have hW := with_spec (nmsF ns i) (ns.getD i nm0).name (by omega)
      rw [hds, hlast] at hde
      generalize hx : ns.getD i nm0 = x at *
      have hxe : nmV x = .agg [.int .i64 x.kind, .int .i64 x.num, .int .i64 x.par, .str (bs x.val), .str (bs x.name)] := rfl
      obtain ⟨d, hd, hd0⟩ : ∃ d : Int, ((((x.par ≥ 0) = True ∧ (dpF ns i)[x.par.toNat]? = some (d - 1))) ∨ ((x.par ≥ 0) = False ∧ d = 0 ∧ bt [] 0 = 0)) ∧ (if 0 ≤ x.par then (dpF ns i).getD x.par.toNat 0 + 1 else 0) = d := by
        by_cases h : 0 ≤ x.par
        · refine ⟨_, .inl ⟨eq_true h, ?_⟩, rfl⟩
          rw [if_pos h, Int.add_sub_cancel]
          simp [List.getD, List.getElem?_eq_getElem (show x.par.toNat < (dpF ns i).length by omega)]
        · exact ⟨0, .inr ⟨eq_false h, rfl, rfl⟩, by rw [if_neg h]⟩
      have hdb : 0 ≤ d ∧ d ≤ 1000001 := by
        rw [← hd0]
        split
        · have := hbd x.par.toNat; omega
        · omega
      rw [hd0] at hds hde
      have hd' : (((x.par ≥ 0) = True ∧ (dpF ns i)[x.par.toNat]? = some (d - 1) ∧ x.par.toNat < i) ∨ ((x.par ≥ 0) = False ∧ bt [] 0 = 0 ∧ d = 0)) := by
        rcases hd with ⟨h1, h2⟩ | ⟨h1, h2, h3⟩
        · exact .inl ⟨h1, h2, by have := lt_of_get h2; omega⟩
        · exact .inr ⟨h1, h3, h2⟩
      have hk : ((x.kind = 1) = True ∧ (d > 64) = True ∧ bt [] 0 = 0 ∧ deepF ns i = true) ∨ ((x.kind = 1) = True ∧ (d > 64) = False ∧ (x.kind = 3) = False ∧ deepF ns i = false) ∨ ((x.kind = 1) = False ∧ bt [] 0 = 0 ∧ (x.kind = 3) = True ∧ deepF ns i = false) ∨ ((x.kind = 1) = False ∧ bt [] 0 = 0 ∧ (x.kind = 3) = False ∧ deepF ns i = false) := by
        rw [hde]
        by_cases k1 : x.kind = 1
        · by_cases k2 : 64 < d
          · exact .inl ⟨eq_true k1, eq_true k2, rfl, by rw [decide_eq_true k1, decide_eq_true k2]; rfl⟩
          · exact .inr (.inl ⟨eq_true k1, eq_false k2, eq_false (by omega), by rw [decide_eq_false k2, Bool.and_false]⟩)
        · by_cases k3 : x.kind = 3
          · exact .inr (.inr (.inl ⟨eq_false k1, rfl, eq_true k3, by rw [decide_eq_false k1, Bool.false_and]⟩))
          · exact .inr (.inr (.inr ⟨eq_false k1, rfl, eq_false k3, by rw [decide_eq_false k1, Bool.false_and]⟩))
      have nx : deepF ns i = false → ∀ j, j < i + 1 → deepF ns j = false := fun h j hj => by
        by_cases ej : j = i
        · subst ej; exact h
        · exact hno j (by omega)
      clear hde hd hx hbd hpi
      unfold strsV stV at hW
      rcases hk with ⟨e1, e2, e3, hdp⟩ | ⟨e1, e2, e3, hdp⟩ | ⟨e1, e2, e3, hdp⟩ | ⟨e1, e2, e3, hdp⟩
      · have hany : (List.range ns.length).any (deepF ns) = true := List.any_eq_true.2 ⟨i, List.mem_range.2 g, hdp⟩
        rw [if_pos hany] at hX
        subst hX
        unfold trV tr0
        rcases hd' with ⟨p1, p2, p3⟩ | ⟨p1, p2, p3⟩
        · (repeat' (with_reducible first | refine Nx.go ?_ | refine And.intro ?_ ?_ | fail) <;> try (simp (maxSteps := 1000000) (disch := first | exact dq | fail) only [go_sem, g1, hg, hxe, p1, p2, e1, e2, decide_true, decide_false, Int.sub_add_cancel]))
          all_goals (try omega)
          exact sq_tr0 18
        · subst p3
          exact absurd (of_eq_true e2) (by decide)
      · rw [if_neg (of_eq_false e3)] at hns
        rcases hd' with ⟨p1, p2, p3⟩ | ⟨p1, p2, p3⟩
        all_goals (
          (try subst p3)
          (repeat' (with_reducible first | refine Nx.go ?_ | refine And.intro ?_ ?_ | fail) <;> try (simp (maxSteps := 1000000) (disch := first | exact dq | fail) only [go_sem, g1, hg, hxe, p1, p2, e1, e2, e3, decide_true, decide_false, strsV, Bool.not_false, Int.sub_add_cancel]))
          all_goals (try omega)
          ((with_reducible first | apply left_callf | apply leftD_callf | apply leftF_callf); (· with_reducible rfl); (· (simp (maxSteps := 1000000) (disch := first | exact dq | fail) only [go_sem]) <;> rfl); (· exact hW); try (simp (maxSteps := 1000000) (disch := first | exact dq | fail) only [go_sem]))
          (repeat' (first | refine Nx.go ?_ | fail) <;> try (simp (maxSteps := 1000000) (disch := first | exact dq | fail) only [go_sem]))
          all_goals (try omega)
          refine ⟨i + 1, ⟨by omega, nx hdp⟩, wk_by [0, 1, 2] ?_, by omega⟩
          (simp (maxSteps := 1000000) (disch := first | exact dq | fail) only [go_sem, hns, hds, List.map_append, strsV, Int.sub_add_cancel])
          try rfl)
      · rw [if_pos (of_eq_true e3)] at hns
        rcases hd' with ⟨p1, p2, p3⟩ | ⟨p1, p2, p3⟩
        all_goals (
          (try subst p3)
          (repeat' (with_reducible first | refine Nx.go ?_ | refine And.intro ?_ ?_ | fail) <;> try (simp (maxSteps := 1000000) (disch := first | exact dq | fail) only [go_sem, g1, hg, hxe, p1, p2, e1, e2, e3, decide_true, decide_false, strsV, Bool.not_true, Int.sub_add_cancel]))
          all_goals (try omega)
          refine ⟨i + 1, ⟨by omega, nx hdp⟩, wk_by [0, 1, 2] ?_, by omega⟩
          (simp (maxSteps := 1000000) (disch := first | exact dq | fail) only [go_sem, hns, hds, List.map_append, strsV, Int.sub_add_cancel])
          try rfl)
      · rw [if_neg (of_eq_false e3)] at hns
        rcases hd' with ⟨p1, p2, p3⟩ | ⟨p1, p2, p3⟩
        all_goals (
          (try subst p3)
          (repeat' (with_reducible first | refine Nx.go ?_ | refine And.intro ?_ ?_ | fail) <;> try (simp (maxSteps := 1000000) (disch := first | exact dq | fail) only [go_sem, g1, hg, hxe, p1, p2, e1, e2, e3, decide_true, decide_false, strsV, Bool.not_false, Int.sub_add_cancel]))
          all_goals (try omega)
          ((with_reducible first | apply left_callf | apply leftD_callf | apply leftF_callf); (· with_reducible rfl); (· (simp (maxSteps := 1000000) (disch := first | exact dq | fail) only [go_sem]) <;> rfl); (· exact hW); try (simp (maxSteps := 1000000) (disch := first | exact dq | fail) only [go_sem]))
          (repeat' (first | refine Nx.go ?_ | fail) <;> try (simp (maxSteps := 1000000) (disch := first | exact dq | fail) only [go_sem]))
          all_goals (try omega)
          refine ⟨i + 1, ⟨by omega, nx hdp⟩, wk_by [0, 1, 2] ?_, by omega⟩
          (simp (maxSteps := 1000000) (disch := first | exact dq | fail) only [go_sem, hns, hds, List.map_append, strsV, Int.sub_add_cancel])
          try rfl)
    · obtain rfl : i = ns.length := by omega
      have g1 : ¬ (ns.length : Int) < ns.length := by omega
      (repeat' (first | refine Nx.go ?_ | fail) <;> try (simp (maxSteps := 1000000) (disch := first | exact dq | fail) only [go_sem, g1, decide_false]))
      refine ⟨(), hno, wk_by [0, 1] ?_⟩
      (simp (maxSteps := 1000000) (disch := first | exact dq | fail) only [go_sem])
  · rintro _ hno
    have hany : ¬ (List.range ns.length).any (deepF ns) = true := by
      rw [List.any_eq_true]
      rintro ⟨j, hj, h⟩
      rw [hno j (List.mem_range.1 hj)] at h; cases h
    rw [if_neg hany] at hX
    generalize nmsF ns ns.length = w at *
    by_cases c2 : 1000 < w.length
    · rw [if_pos c2] at hX
      have c2' : (w.length : Int) > 1000 := by omega
      subst hX
      unfold trV tr0
      (repeat' (first | refine Nx.go ?_ | fail) <;> try (simp (maxSteps := 1000000) (disch := first | exact dq | fail) only [go_sem, strsV, c2', decide_true]))
      all_goals (try omega)
      exact sq_tr0 18
    · rw [if_neg c2] at hX
      have c2' : ¬ (w.length : Int) > 1000 := by omega
      subst hX
      (repeat' (first | refine Nx.go ?_ | fail) <;> try (simp (maxSteps := 1000000) (disch := first | exact dq | fail) only [go_sem, strsV, c2', decide_false]))
      all_goals (try omega)
      have hnl : ∀ k, ((ns.map (ndOf w)).take k).length = min k ns.length := fun k => by rw [List.length_take, List.length_map]
      refine aw_loop (α := Nat) (fun i => ⟨94, sl [(0, .iv (.sl 5 (ns.map nmV))), (2, .mp 0 0), (4, .mp 1 0), (9, .iv (.int .i64 i))], [.var 25 [.nilsl, .nilsl], .var 25 [.iv (.sl 1 (w.map stV)), .msl 2 0 i i], .row true 53 4 (((ns.map (ndOf w)).take i).map ndV)], 0⟩)
        (fun i => i ≤ ns.length) (fun i => ns.length - i) 0 ((wk_ownc 53 4 1 1 rfl rfl).trans (wk_by [0, 1, 2] ?_)) (by omega) ?_
      · (simp (maxSteps := 1000000) (disch := first | exact dq | fail) only [go_sem])
        try exact ⟨rfl, rfl⟩
      rintro i hi
      have hni := hnl i
      rw [Nat.min_eq_left hi] at hni
      by_cases g : i < ns.length
      · have g1 : (i : Int) < ns.length := by omega
        have hg := getN g
        have ht : (ns.map (ndOf w)).take (i + 1) = (ns.map (ndOf w)).take i ++ [ndOf w (ns.getD i nm0)] := by
          rw [List.take_add_one, List.getElem?_map, hg]; rfl
        have hN := NumbS_spec w (ns.getD i nm0).name (by omega)
        generalize ns.getD i nm0 = x at *
        have hxe : nmV x = .agg [.int .i64 x.kind, .int .i64 x.num, .int .i64 x.par, .str (bs x.val), .str (bs x.name)] := rfl
        unfold strsV stV at hN
        by_cases e3 : x.kind = 3
        · have hnd : ndV (ndOf w x) = .agg [.int .i64 x.kind, .int .i64 x.num, .int .i64 x.par, .str (bs x.val)] := by unfold ndV ndOf; rw [if_pos e3]
          (repeat' (with_reducible first | refine Nx.go ?_ | refine And.intro ?_ ?_ | fail) <;> try (simp (maxSteps := 1000000) (disch := first | exact dq | fail) only [go_sem, g1, hg, hxe, hni, eq_true e3, decide_true, Bool.not_true]))
          all_goals (try omega)
          refine ⟨i + 1, by omega, wk_by [0, 1, 2] ?_, by omega⟩
          (simp (maxSteps := 1000000) (disch := first | exact dq | fail) only [go_sem, ht, List.map_append, hnd])
          try rfl
        · have hnd : ndV (ndOf w x) = .agg [.int .i64 x.kind, .int .i64 (numbF w x.name), .int .i64 x.par, .str (bs x.val)] := by unfold ndV ndOf; rw [if_neg e3]
          (repeat' (with_reducible first | refine Nx.go ?_ | refine rP ?_ | refine And.intro ?_ ?_ | fail) <;> try (simp (maxSteps := 1000000) (disch := first | exact dq | fail) only [go_sem, g1, hg, hxe, eq_false e3, decide_false, Bool.not_false]))
          all_goals (try omega)
          ((with_reducible first | apply left_callf | apply leftD_callf | apply leftF_callf); (· with_reducible rfl); (· (simp (maxSteps := 1000000) (disch := first | exact dq | fail) only [go_sem]) <;> rfl); (· exact hN); try (simp (maxSteps := 1000000) (disch := first | exact dq | fail) only [go_sem]))
          (repeat' (with_reducible first | refine Nx.go ?_ | refine And.intro ?_ ?_ | fail) <;> try (simp (maxSteps := 1000000) (disch := first | exact dq | fail) only [go_sem, hni]))
          all_goals (try omega)
          refine ⟨i + 1, by omega, wk_by [0, 1, 2] ?_, by omega⟩
          (simp (maxSteps := 1000000) (disch := first | exact dq | fail) only [go_sem, ht, List.map_append, hnd])
          try rfl
      · obtain rfl : i = ns.length := by omega
        have g1 : ¬ (ns.length : Int) < ns.length := by omega
        have hta : (ns.map (ndOf w)).take ns.length = ns.map (ndOf w) := List.take_of_length_le (by simp)
        rw [hta]
        have htk : List.take ns.length (List.map ndV (List.map (ndOf w) ns)) = List.map ndV (List.map (ndOf w) ns) := List.take_of_length_le (by simp)
        unfold trV
        (repeat' (first | refine Nx.go ?_ | fail) <;> try (simp (maxSteps := 1000000) (disch := first | exact dq | fail) only [go_sem, g1, decide_false, Nat.le_refl, if_true, htk]))
        all_goals (try omega)
        all_goals (first | exact ⟨_, rfl, Sq.refl _⟩ | exact Sq.refl _)
end Go.Proofs.Ytnijpeeehnnipaa.AM
