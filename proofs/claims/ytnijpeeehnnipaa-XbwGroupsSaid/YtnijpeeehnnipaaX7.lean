
/- Chapter 12's document: tag, piece, Lex. No condition but lengths that fit. -/
import Derived.Test.YtnijpeeehnnipaaX6
set_option linter.unusedVariables false
set_option linter.unusedSimpArgs false
set_option maxRecDepth 20000
namespace Go.Proofs.Ytnijpeeehnnipaa.AM
open Go Go.RowKit

def tksV (l : List Tk) : IV := .sl 5 (l.map tkV)
@[go_sem] theorem zr_tk : List.mapM constIVcell [Value.int IntKind.i64 0, Value.int IntKind.i64 0, Value.int IntKind.i64 0, Value.string (bs []), Value.string (bs [])] = some [.int .i64 0, .int .i64 0, .int .i64 0, .str (bs []), .str (bs [])] := rfl
theorem attrF_to {s : Str} {a : Nat} (ha : a ≤ s.length) (h : (attrF s a).2 = true) : ∃ to : Nat, (attrF s a).1.to = to ∧ a < to ∧ to ≤ s.length := by
  have l1 := skipF_le s ha
  unfold attrF at h ⊢
  generalize skipF s a = f at *
  have l2 := nameF_le s (show f ≤ s.length by omega)
  generalize nameF s f = e at *
  by_cases c1 : f = a ∨ e = f
  · rw [if_pos c1] at h; cases h
  rw [if_neg c1] at h ⊢
  have l3 := skipF_le s (show e ≤ s.length by omega)
  generalize skipF s e = g at *
  cases hb1 : bgnF s g [61] with
  | false => rw [hb1, if_pos rfl] at h; cases h
  | true =>
    have l4 := one_le hb1
    rw [hb1, if_neg (by decide)] at h
    rw [if_neg (by decide)]
    have l5 := skipF_le s l4
    dsimp only at h ⊢
    generalize skipF s (g + 1) = q at *
    by_cases c3 : bgnF s q [34] = false ∧ bgnF s q [39] = false
    · rw [if_pos c3] at h; cases h
    rw [if_neg c3] at h ⊢
    have lq : q + 1 ≤ s.length := by
      cases hq : bgnF s q [34] with
      | true => exact one_le hq
      | false =>
        cases hq2 : bgnF s q [39] with
        | true => exact one_le hq2
        | false => exact absurd ⟨hq, hq2⟩ c3
    have cf := findF_cases s (sub s q (q + 1)) (q + 1)
    have el : (sub s q (q + 1)).length = 1 := by unfold sub; rw [List.length_take, List.length_drop]; omega
    rw [el] at cf
    generalize findF s (q + 1) (sub s q (q + 1)) = F at *
    by_cases cF : F < 0
    · rw [if_pos cF] at h; cases h
    rw [if_neg cF] at h ⊢
    by_cases cG : 0 ≤ findF (sub s (q + 1) F.toNat) 0 [60]
    · rw [if_pos cG] at h; cases h
    rw [if_neg cG] at h ⊢
    exact ⟨F.toNat + 1, by simp, by omega, by omega⟩
theorem lastTo_snoc (l : List Tk) (t : Tk) : lastTo (l ++ [t]) = t.to.toNat := by
  unfold lastTo
  rw [List.length_append, List.length_singleton, Nat.add_sub_cancel, List.getD, List.getElem?_append_right (Nat.le_refl _), Nat.sub_self]; rfl
set_option maxHeartbeats 4000000 in
theorem tag_spec (s : Str) (a : Nat) (hs : s.length ≤ 1000000) (ha : a + 1 ≤ s.length) : PCalls Try.prog 59 [stV s, .int .i64 a] (.tup [tksV (tagF s a).1, .bool (tagF s a).2]) := by
  have k1 := NameEnd_spec s (a + 1) hs ha
  have l1 := nameF_le s ha
  rw [show ((a + 1 : Nat) : Int) = (a : Int) + 1 by omega] at k1
  unfold tagF tksV stV at *
  generalize nameF s (a + 1) = e at *
  by_cases c : e = a + 1
  · have c1 : ((e : Int) = a + 1) = True := eq_true (by omega)
    rw [if_pos c]
    refine PCalls.of_aw Try.func59 rfl (by unfold Callable; kernel_rfl) (by kernel_rfl) (by simp [Try.ntmps59]) ?_; rw [Try.ntmps59, Try.results59]; (simp (maxSteps := 1000000) (disch := first | exact dq | fail) only [go_sem])
    (repeat' (first | refine Nx.go ?_ | fail) <;> try (simp (maxSteps := 1000000) (disch := first | exact dq | fail) only [go_sem]))
    all_goals (try omega)
    ((with_reducible first | apply left_callf | apply leftD_callf | apply leftF_callf); (· with_reducible rfl); (· (simp (maxSteps := 1000000) (disch := first | exact dq | fail) only [go_sem]) <;> rfl); (· exact k1); try (simp (maxSteps := 1000000) (disch := first | exact dq | fail) only [go_sem]))
    (repeat' (first | refine Nx.go ?_ | fail) <;> try (simp (maxSteps := 1000000) (disch := first | exact dq | fail) only [go_sem, c1, decide_true]))
    all_goals (try omega)
  have c1 : ((e : Int) = a + 1) = False := eq_false (by omega)
  have e2 : (e : Int).toNat - ((a : Int) + 1).toNat = e - (a + 1) := by omega
  have e3 : ((a : Int) + 1).toNat = a + 1 := by omega
  rw [if_neg c]
  generalize hsub : sub s (a + 1) e = nm
  unfold sub at hsub
  refine PCalls.of_aw Try.func59 rfl (by unfold Callable; kernel_rfl) (by kernel_rfl) (by simp [Try.ntmps59]) ?_; rw [Try.ntmps59, Try.results59]; (simp (maxSteps := 1000000) (disch := first | exact dq | fail) only [go_sem])
  (repeat' (first | refine Nx.go ?_ | fail) <;> try (simp (maxSteps := 1000000) (disch := first | exact dq | fail) only [go_sem]))
  all_goals (try omega)
  ((with_reducible first | apply left_callf | apply leftD_callf | apply leftF_callf); (· with_reducible rfl); (· (simp (maxSteps := 1000000) (disch := first | exact dq | fail) only [go_sem]) <;> rfl); (· exact k1); try (simp (maxSteps := 1000000) (disch := first | exact dq | fail) only [go_sem]))
  (repeat' (with_reducible first | refine Nx.go ?_ | refine And.intro ?_ ?_ | fail) <;> try (simp (maxSteps := 1000000) (disch := first | exact dq | fail) only [go_sem, c1, e3, hsub, decide_false]))
  all_goals (try omega)
  generalize hT : tagG s (s.length + 1) e [⟨1, a, e, nm, []⟩] = T
  refine aw_loop (α := Nat × List Tk) (fun x => ⟨71, sl [(0, .iv (.str (bs s))), (7, .msl 0 0 x.2.length x.2.length)], [.row true 73 5 (x.2.map tkV)], 0⟩)
    (fun x => (0 < x.2.length ∧ x.2.length ≤ s.length + 2 - x.1 ∧ s.length + 1 ≤ x.1 + lastTo x.2 ∧ lastTo x.2 ≤ s.length ∧ ∃ to : Nat, (x.2.getD (x.2.length - 1) tk0).to = to) ∧ tagG s x.1 (lastTo x.2) x.2 = T) (fun x => x.1) (s.length + 1, [⟨1, a, e, nm, []⟩]) (wk_by [1] ?_) ⟨⟨Nat.succ_pos _, by simp, by simp [lastTo], by simp [lastTo]; omega, ⟨e, rfl⟩⟩, by simpa [lastTo] using hT⟩ ?_
  · (simp (maxSteps := 1000000) (disch := first | exact dq | fail) only [go_sem, tkV])
    try exact ⟨rfl, rfl⟩
  rintro ⟨f, out⟩ ⟨⟨ho, hol, hf, hlast, ⟨to, hto⟩⟩, he⟩
  dsimp only at ho hol hf hlast hto he
  have hlt : lastTo out = to := by unfold lastTo; rw [hto]; rfl
  rw [hlt] at hf hlast he
  rw [← he]
  clear hT
  obtain ⟨f', rfl⟩ : ∃ f', f = f' + 1 := ⟨f - 1, by omega⟩
  have hg : out[out.length - 1]? = some (out.getD (out.length - 1) tk0) := by simp [List.getD, List.getElem?_eq_getElem (show out.length - 1 < out.length by omega)]
  have hgt : (tkV (out.getD (out.length - 1) tk0)) = .agg [.int .i64 (out.getD (out.length - 1) tk0).kind, .int .i64 (out.getD (out.length - 1) tk0).fr, .int .i64 to, .str (bs (out.getD (out.length - 1) tk0).name), .str (bs (out.getD (out.length - 1) tk0).val)] := by unfold tkV; rw [hto]
  have hn1 : ((out.length : Int) - 1).toNat = out.length - 1 := by omega
  have k2 := Skip_spec s to hs hlast
  have l2 := skipF_le s hlast
  rw [tagG]
  generalize skipF s to = i at *
  have b1 := begins12_spec s i [62] hs (by omega) (by decide)
  have b2 := begins12_spec s i [47, 62] hs (by omega) (by decide)
  have at_ := attr_spec s to hs hlast
  unfold stV at k2 b1 b2 at_
  generalize out.getD (out.length - 1) tk0 = tl at *
  have htk : ∀ z : IV, List.take (out.length + 1) (List.map tkV out ++ [z]) = List.map tkV out ++ [z] := fun z => List.take_of_length_le (by simp)
  cases h1 : bgnF s i [62] with
  | true =>
    rw [h1] at b1
    rw [if_pos rfl]
    (repeat' (with_reducible first | refine Nx.go ?_ | refine And.intro ?_ ?_ | fail) <;> try (simp (maxSteps := 1000000) (disch := first | exact dq | fail) only [go_sem, hn1, hg, hgt]))
    all_goals (try omega)
    ((with_reducible first | apply left_callf | apply leftD_callf | apply leftF_callf); (· with_reducible rfl); (· (simp (maxSteps := 1000000) (disch := first | exact dq | fail) only [go_sem]) <;> rfl); (· exact k2); try (simp (maxSteps := 1000000) (disch := first | exact dq | fail) only [go_sem]))
    (repeat' (first | refine Nx.go ?_ | fail) <;> try (simp (maxSteps := 1000000) (disch := first | exact dq | fail) only [go_sem]))
    ((with_reducible first | apply left_callf | apply leftD_callf | apply leftF_callf); (· with_reducible rfl); (· (simp (maxSteps := 1000000) (disch := first | exact dq | fail) only [go_sem]) <;> rfl); (· exact b1); try (simp (maxSteps := 1000000) (disch := first | exact dq | fail) only [go_sem]))
    (repeat' (with_reducible first | refine Nx.go ?_ | refine And.intro ?_ ?_ | fail) <;> try (simp (maxSteps := 1000000) (disch := first | exact dq | fail) only [go_sem, tkV, List.map_append, htk, Nat.le_refl, if_true]))
    all_goals (try omega)
  | false =>
    rw [h1] at b1
    rw [if_neg (by decide)]
    cases h2 : bgnF s i [47, 62] with
    | true =>
      rw [h2] at b2
      rw [if_pos rfl]
      (repeat' (with_reducible first | refine Nx.go ?_ | refine And.intro ?_ ?_ | fail) <;> try (simp (maxSteps := 1000000) (disch := first | exact dq | fail) only [go_sem, hn1, hg, hgt]))
      all_goals (try omega)
      ((with_reducible first | apply left_callf | apply leftD_callf | apply leftF_callf); (· with_reducible rfl); (· (simp (maxSteps := 1000000) (disch := first | exact dq | fail) only [go_sem]) <;> rfl); (· exact k2); try (simp (maxSteps := 1000000) (disch := first | exact dq | fail) only [go_sem]))
      (repeat' (first | refine Nx.go ?_ | fail) <;> try (simp (maxSteps := 1000000) (disch := first | exact dq | fail) only [go_sem]))
      ((with_reducible first | apply left_callf | apply leftD_callf | apply leftF_callf); (· with_reducible rfl); (· (simp (maxSteps := 1000000) (disch := first | exact dq | fail) only [go_sem]) <;> rfl); (· exact b1); try (simp (maxSteps := 1000000) (disch := first | exact dq | fail) only [go_sem]))
      (repeat' (first | refine Nx.go ?_ | fail) <;> try (simp (maxSteps := 1000000) (disch := first | exact dq | fail) only [go_sem]))
      ((with_reducible first | apply left_callf | apply leftD_callf | apply leftF_callf); (· with_reducible rfl); (· (simp (maxSteps := 1000000) (disch := first | exact dq | fail) only [go_sem]) <;> rfl); (· exact b2); try (simp (maxSteps := 1000000) (disch := first | exact dq | fail) only [go_sem]))
      (repeat' (with_reducible first | refine Nx.go ?_ | refine And.intro ?_ ?_ | fail) <;> try (simp (maxSteps := 1000000) (disch := first | exact dq | fail) only [go_sem, tkV, List.map_append, htk, Nat.le_refl, if_true]))
      all_goals (try omega)
    | false =>
      rw [h2] at b2
      rw [if_neg (by decide)]
      have hto2 := attrF_to hlast
      generalize (attrF s to).1 = t at *
      cases h3 : (attrF s to).2 with
      | false =>
        rw [h3] at at_
        rw [if_pos rfl]
        unfold tkV at at_
        (repeat' (with_reducible first | refine Nx.go ?_ | refine And.intro ?_ ?_ | fail) <;> try (simp (maxSteps := 1000000) (disch := first | exact dq | fail) only [go_sem, hn1, hg, hgt]))
        all_goals (try omega)
        ((with_reducible first | apply left_callf | apply leftD_callf | apply leftF_callf); (· with_reducible rfl); (· (simp (maxSteps := 1000000) (disch := first | exact dq | fail) only [go_sem]) <;> rfl); (· exact k2); try (simp (maxSteps := 1000000) (disch := first | exact dq | fail) only [go_sem]))
        (repeat' (first | refine Nx.go ?_ | fail) <;> try (simp (maxSteps := 1000000) (disch := first | exact dq | fail) only [go_sem]))
        ((with_reducible first | apply left_callf | apply leftD_callf | apply leftF_callf); (· with_reducible rfl); (· (simp (maxSteps := 1000000) (disch := first | exact dq | fail) only [go_sem]) <;> rfl); (· exact b1); try (simp (maxSteps := 1000000) (disch := first | exact dq | fail) only [go_sem]))
        (repeat' (first | refine Nx.go ?_ | fail) <;> try (simp (maxSteps := 1000000) (disch := first | exact dq | fail) only [go_sem]))
        ((with_reducible first | apply left_callf | apply leftD_callf | apply leftF_callf); (· with_reducible rfl); (· (simp (maxSteps := 1000000) (disch := first | exact dq | fail) only [go_sem]) <;> rfl); (· exact b2); try (simp (maxSteps := 1000000) (disch := first | exact dq | fail) only [go_sem]))
        (repeat' (first | refine Nx.go ?_ | fail) <;> try (simp (maxSteps := 1000000) (disch := first | exact dq | fail) only [go_sem]))
        ((with_reducible first | apply left_callf | apply leftD_callf | apply leftF_callf); (· with_reducible rfl); (· (simp (maxSteps := 1000000) (disch := first | exact dq | fail) only [go_sem]) <;> rfl); (· exact at_); try (simp (maxSteps := 1000000) (disch := first | exact dq | fail) only [go_sem]))
        (repeat' (first | refine Nx.go ?_ | fail) <;> try (simp (maxSteps := 1000000) (disch := first | exact dq | fail) only [go_sem]))
        all_goals (try omega)
      | true =>
        rw [h3] at at_ hto2
        obtain ⟨to2, e4, e5, e6⟩ := hto2 rfl
        rw [if_neg (by decide)]
        have hl2 := lastTo_snoc out t
        rw [e4, Int.toNat_natCast] at hl2
        have hd2 : (out ++ [t]).getD ((out ++ [t]).length - 1) tk0 = t := by
          rw [List.length_append, List.length_singleton, Nat.add_sub_cancel, List.getD, List.getElem?_append_right (Nat.le_refl _), Nat.sub_self]; rfl
        unfold tkV at at_
        (repeat' (with_reducible first | refine Nx.go ?_ | refine And.intro ?_ ?_ | fail) <;> try (simp (maxSteps := 1000000) (disch := first | exact dq | fail) only [go_sem, hn1, hg, hgt]))
        all_goals (try omega)
        ((with_reducible first | apply left_callf | apply leftD_callf | apply leftF_callf); (· with_reducible rfl); (· (simp (maxSteps := 1000000) (disch := first | exact dq | fail) only [go_sem]) <;> rfl); (· exact k2); try (simp (maxSteps := 1000000) (disch := first | exact dq | fail) only [go_sem]))
        (repeat' (first | refine Nx.go ?_ | fail) <;> try (simp (maxSteps := 1000000) (disch := first | exact dq | fail) only [go_sem]))
        ((with_reducible first | apply left_callf | apply leftD_callf | apply leftF_callf); (· with_reducible rfl); (· (simp (maxSteps := 1000000) (disch := first | exact dq | fail) only [go_sem]) <;> rfl); (· exact b1); try (simp (maxSteps := 1000000) (disch := first | exact dq | fail) only [go_sem]))
        (repeat' (first | refine Nx.go ?_ | fail) <;> try (simp (maxSteps := 1000000) (disch := first | exact dq | fail) only [go_sem]))
        ((with_reducible first | apply left_callf | apply leftD_callf | apply leftF_callf); (· with_reducible rfl); (· (simp (maxSteps := 1000000) (disch := first | exact dq | fail) only [go_sem]) <;> rfl); (· exact b2); try (simp (maxSteps := 1000000) (disch := first | exact dq | fail) only [go_sem]))
        (repeat' (first | refine Nx.go ?_ | fail) <;> try (simp (maxSteps := 1000000) (disch := first | exact dq | fail) only [go_sem]))
        ((with_reducible first | apply left_callf | apply leftD_callf | apply leftF_callf); (· with_reducible rfl); (· (simp (maxSteps := 1000000) (disch := first | exact dq | fail) only [go_sem]) <;> rfl); (· exact at_); try (simp (maxSteps := 1000000) (disch := first | exact dq | fail) only [go_sem]))
        (repeat' (with_reducible first | refine Nx.go ?_ | refine And.intro ?_ ?_ | fail) <;> try (simp (maxSteps := 1000000) (disch := first | exact dq | fail) only [go_sem]))
        all_goals (try omega)
        refine ⟨(f', out ++ [t]), ⟨⟨by dsimp only; rw [List.length_append, List.length_singleton]; omega, by dsimp only; rw [List.length_append, List.length_singleton]; omega, by dsimp only; rw [hl2]; omega, by dsimp only; rw [hl2]; omega, ⟨to2, by dsimp only; rw [hd2]; exact e4⟩⟩, ?_⟩, wk_by [0] ?_, by dsimp only; omega⟩
        · dsimp only
          rw [hl2, e4, Int.toNat_natCast]
        · (simp (maxSteps := 1000000) (disch := first | exact dq | fail) only [go_sem, tkV, List.map_append])
end Go.Proofs.Ytnijpeeehnnipaa.AM
