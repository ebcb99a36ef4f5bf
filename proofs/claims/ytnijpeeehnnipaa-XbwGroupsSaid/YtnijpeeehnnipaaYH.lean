
/- Chapter 16's laws: short, small, the chapter's example. No condition but lengths that fit. -/
import Derived.Test.YtnijpeeehnnipaaYG
import Derived.Test.YtnijpeeehnnipaaXH
import Derived.KernelRfl
set_option linter.unusedVariables false
set_option linter.unusedSimpArgs false
set_option maxRecDepth 20000
namespace Go.Proofs.Ytnijpeeehnnipaa.AM
open Go Go.RowKit

theorem short_spec (s : List UInt8) (n : Nat) : PCalls Try.prog 15 [.str (bs s), .int .i64 n] (.str (bs (s.take n))) := by
  by_cases h : s.length > n
  · have c : ((s.length : Int) > n) := by omega
    refine PCalls.of_aw Try.func15 rfl (by unfold Callable; kernel_rfl) (by kernel_rfl) (by simp [Try.ntmps15]) ?_; rw [Try.ntmps15, Try.results15]; (simp (disch := first | exact dq | fail) only [go_sem])
    (repeat' (with_reducible first | refine Nx.go ?_ | refine And.intro ?_ ?_ | fail) <;> try (simp (disch := first | exact dq | fail) only [go_sem, eq_true c, decide_true]))
    all_goals (try omega)
    try rw [Nat.sub_zero]
  · have c : ¬ ((s.length : Int) > n) := by omega
    rw [List.take_of_length_le (by omega)]
    refine PCalls.of_aw Try.func15 rfl (by unfold Callable; kernel_rfl) (by kernel_rfl) (by simp [Try.ntmps15]) ?_; rw [Try.ntmps15, Try.results15]; (simp (disch := first | exact dq | fail) only [go_sem])
    (repeat' (first | refine Nx.go ?_ | fail) <;> try (simp (disch := first | exact dq | fail) only [go_sem, eq_false c, decide_false]))
    all_goals (try omega)
def cutN (n : Nd) : Nd := ⟨n.kind, n.name, n.par, n.val.take 20⟩
def smlT (t : Tr) : Tr := ⟨(t.names.take 12).map (List.take 20), (t.nodes.take 30).map cutN⟩
def exS : List UInt8 := [60, 97, 62, 60, 98, 62, 60, 97, 47, 62, 60, 47, 98, 62, 60, 98, 47, 62, 60, 47, 97, 62]
def exT : Tr := ⟨[[97], [98]], [⟨1, 0, -1, []⟩, ⟨1, 1, 0, []⟩, ⟨1, 0, 1, []⟩, ⟨1, 1, 0, []⟩]⟩
def exR : Rw := ⟨[0, 1, 3, 2], [true, false, true, true], [0, 2, 2, 0], [false, false, true, true], [1, 3, 3, 4, 4, 4]⟩
theorem ex_parse : parseF exS = (exT, 0) := by kernel_rfl
theorem ex_build : bldF exT = (exR, true) := by kernel_rfl
set_option maxHeartbeats 2000000 in
theorem awake16_spec : PCalls Try.prog 9 [] (.bool true) := by
  have hP := Parse_spec exS (by decide)
  rw [ex_parse] at hP
  have hB := xbwBuild_spec exT (by decide) (by decide)
  rw [ex_build] at hB
  have hS := RwSame_spec exR (by decide) (by decide) (by decide) (by decide) (by decide)
  unfold exS stV at hP
  dsimp only at hP hB
  unfold trV at hP hB
  unfold rwV at hB hS
  generalize exT.names.map (fun s => IV.str (bs s)) = TA at *
  generalize exT.nodes.map ndV = TB at *
  unfold exR inl blsV at hB hS
  simp only [List.map_cons, List.map_nil, if_true] at hB hS
  refine PCalls.of_aw Try.func9 rfl (by unfold Callable; kernel_rfl) (by kernel_rfl) (by simp [Try.ntmps9]) ?_; rw [Try.ntmps9, Try.results9]; (simp (maxSteps := 1000000) (disch := first | exact dq | fail) only [go_sem])
  (repeat' (first | refine Nx.go ?_ | fail) <;> try (simp (maxSteps := 1000000) (disch := first | exact dq | fail) only [go_sem]))
  ((with_reducible first | apply left_callf | apply leftD_callf | apply leftF_callf); (· with_reducible rfl); (· (simp (maxSteps := 1000000) (disch := first | exact dq | fail) only [go_sem]) <;> rfl); (· exact hP); try (simp (maxSteps := 1000000) (disch := first | exact dq | fail) only [go_sem]))
  (repeat' (first | refine Nx.go ?_ | fail) <;> try (simp (maxSteps := 1000000) (disch := first | exact dq | fail) only [go_sem]))
  ((with_reducible first | apply left_callf | apply leftD_callf | apply leftF_callf); (· with_reducible rfl); (· (simp (maxSteps := 1000000) (disch := first | exact dq | fail) only [go_sem]) <;> rfl); (· exact hB); try (simp (maxSteps := 1000000) (disch := first | exact dq | fail) only [go_sem]))
  (repeat' (first | refine Nx.go ?_ | fail) <;> try (simp (maxSteps := 1000000) (disch := first | exact dq | fail) only [go_sem]))
  ((with_reducible apply left_callfF); (· with_reducible rfl); (· (simp (maxSteps := 1000000) (disch := first | exact dq | fail) only [go_sem]) <;> rfl); (· exact hS); try (simp (maxSteps := 1000000) (disch := first | exact dq | fail) only [go_sem]))
  (repeat' (first | refine Nx.go ?_ | fail) <;> try (simp (maxSteps := 1000000) (disch := first | exact dq | fail) only [go_sem]))
set_option maxHeartbeats 4000000 in
theorem small16_spec (t : Tr) : PCalls Try.prog 10 [trV t] (trV (smlT t)) := by
  have hSh := fun s => short_spec s 20
  unfold smlT trV
  dsimp only
  have hAl : ((t.names.take 12).map (List.take 20)).length = min 12 t.names.length := by rw [List.length_map, List.length_take]
  have hBl : ((t.nodes.take 30).map cutN).length = min 30 t.nodes.length := by rw [List.length_map, List.length_take]
  have hAg : ∀ i, i < t.names.length → i < 12 → ((t.names.take 12).map (List.take 20)).take (i + 1) = ((t.names.take 12).map (List.take 20)).take i ++ [(t.names.getD i []).take 20] := fun i h1 h2 => by
    refine takeM _ _ ?_
    rw [List.getElem?_take, if_pos h2]
    simp [List.getD, List.getElem?_eq_getElem h1]
  have hBg : ∀ i, i < t.nodes.length → i < 30 → ((t.nodes.take 30).map cutN).take (i + 1) = ((t.nodes.take 30).map cutN).take i ++ [cutN (t.at i)] := fun i h1 h2 => by
    refine takeM _ _ ?_
    rw [List.getElem?_take, if_pos h2, getNd h1]
  generalize (t.names.take 12).map (List.take 20) = A at *
  generalize (t.nodes.take 30).map cutN = B at *
  refine PCalls.of_awS Try.func10 rfl (by unfold Callable; kernel_rfl) (by kernel_rfl) (by simp [Try.ntmps10]) ?_; rw [Try.ntmps10, Try.results10]; (simp (maxSteps := 1000000) (disch := first | exact dq | fail) only [go_sem])
  (repeat' (first | refine Nx.go ?_ | fail) <;> try (simp (maxSteps := 1000000) (disch := first | exact dq | fail) only [go_sem]))
  all_goals (try omega)
  refine aw_wk (wk_ownc 9 1 2 0 (T' := 25) (cs := [.nilsl, .nilsl]) rfl rfl) ?_
  refine aw_wk (wk_ownc 53 4 2 1 (T' := 25) (cs := [.msl 3 0 0 0, .nilsl]) rfl rfl) ?_
  refine aw_loop (α := Nat) (fun i => ⟨56, sl [(1, .mp 0 0), (2, .mp 1 0), (3, .mp 2 0), (4, .iv (.int .i64 i))], [.var 25 [.iv (.sl 1 (t.names.map fun s => IV.str (bs s))), .iv (.sl 4 (t.nodes.map ndV))], .var 25 [.nilsl, .nilsl], .var 25 [.msl 3 0 i i, .msl 4 0 0 0], .row true 9 1 ((A.take i).map (fun s => IV.str (bs s))), .row true 53 4 []], 0⟩)
    (fun i => i ≤ A.length) (fun i => A.length - i) 0 (wk_by [0, 1, 2, 3, 4] ?_) (Nat.zero_le _) ?_
  · (simp (maxSteps := 1000000) (disch := first | exact dq | fail) only [go_sem])
    try exact ⟨rfl, rfl⟩
  rintro i hi
  have hil : (A.take i).length = i := by rw [List.length_take]; omega
  by_cases g : i < A.length
  · have g1 : (i : Int) < t.names.length := by omega
    have g2 : (i : Int) < 12 := by omega
    have hg : t.names[i]? = some (t.names.getD i []) := by simp [List.getD, List.getElem?_eq_getElem (show i < t.names.length by omega)]
    have hA := hAg i (by omega) (by omega)
    generalize t.names.getD i [] = x at *
    generalize A.take i = R at *
    (repeat' (with_reducible first | refine Nx.go ?_ | (refine aw_regionD cwF mixed ?_ (dops_runF ?_); (· kernel_rfl)) | refine And.intro ?_ ?_ | fail) <;> try (simp (maxSteps := 1000000) (disch := first | exact dq | fail) only [go_sem, g1, g2, hg, hil, decide_true]))
    all_goals (try omega)
    ((with_reducible first | apply left_callf | apply leftD_callf | apply leftF_callf); (· with_reducible rfl); (· (simp (maxSteps := 1000000) (disch := first | exact dq | fail) only [go_sem]) <;> rfl); (· exact hSh x); try (simp (maxSteps := 1000000) (disch := first | exact dq | fail) only [go_sem]))
    (repeat' (with_reducible first | refine Nx.go ?_ | refine And.intro ?_ ?_ | fail) <;> try (simp (maxSteps := 1000000) (disch := first | exact dq | fail) only [go_sem, hil]))
    all_goals (try omega)
    refine ⟨i + 1, by omega, wk_by [0, 1, 2, 3, 4] ?_, by omega⟩
    (simp (maxSteps := 1000000) (disch := first | exact dq | fail) only [go_sem, hA, List.map_append])
    try rfl
  · obtain rfl : i = A.length := by omega
    rw [List.take_length] at hil ⊢
    have cs : (((A.length : Int) < t.names.length) = False ∧ bt [] 0 = 0) ∨ (((A.length : Int) < t.names.length) = True ∧ ((A.length : Int) < 12) = False) := by
      by_cases c : (A.length : Int) < t.names.length
      · exact .inr ⟨eq_true c, eq_false (by omega)⟩
      · exact .inl ⟨eq_false c, rfl⟩
    have k1 : List.take A.length (A.map (fun s => IV.str (bs s))) = A.map (fun s => IV.str (bs s)) := List.take_of_length_le (by rw [List.length_map]; omega)
    rcases cs with ⟨c1, c2⟩ | ⟨c1, c2⟩
    all_goals (
      (repeat' (first | refine Nx.go ?_ | fail) <;> try (simp (maxSteps := 1000000) (disch := first | exact dq | fail) only [go_sem, c1, c2, decide_true, decide_false]))
      refine aw_loop (α := Nat) (fun i => ⟨56, sl [(1, .mp 0 0), (2, .mp 1 0), (3, .mp 2 0), (5, .iv (.int .i64 i))], [.var 25 [.iv (.sl 1 (t.names.map fun s => IV.str (bs s))), .iv (.sl 4 (t.nodes.map ndV))], .var 25 [.nilsl, .nilsl], .var 25 [.msl 3 0 A.length A.length, .msl 4 0 i i], .row true 9 1 (A.map (fun s => IV.str (bs s))), .row true 53 4 ((B.take i).map ndV)], 0⟩)
        (fun i => i ≤ B.length) (fun i => B.length - i) 0 (wk_by [0, 1, 2, 3, 4] ?_) (Nat.zero_le _) ?_
      · (simp (maxSteps := 1000000) (disch := first | exact dq | fail) only [go_sem])
        try exact ⟨rfl, rfl⟩
      rintro i hi
      have hil2 : (B.take i).length = i := by rw [List.length_take]; omega
      by_cases g : i < B.length
      · have g1 : (i : Int) < t.nodes.length := by omega
        have g2 : (i : Int) < 30 := by omega
        have hg := getNd (t := t) (i := i) (by omega)
        have hA := hBg i (by omega) (by omega)
        have he := ndV_e (t.at i)
        generalize t.at i = x at *
        have hcx : ndV (cutN x) = .agg [.int .i64 x.kind, .int .i64 x.name, .int .i64 x.par, .str (bs (x.val.take 20))] := rfl
        generalize B.take i = R at *
        (repeat' (with_reducible first | refine Nx.go ?_ | refine And.intro ?_ ?_ | fail) <;> try (simp (maxSteps := 1000000) (disch := first | exact dq | fail) only [go_sem, g1, g2, hg, he, hil2, decide_true]))
        all_goals (try omega)
        ((with_reducible first | apply left_callf | apply leftD_callf | apply leftF_callf); (· with_reducible rfl); (· (simp (maxSteps := 1000000) (disch := first | exact dq | fail) only [go_sem]) <;> rfl); (· exact hSh x.val); try (simp (maxSteps := 1000000) (disch := first | exact dq | fail) only [go_sem]))
        (repeat' (with_reducible first | refine Nx.go ?_ | refine And.intro ?_ ?_ | fail) <;> try (simp (maxSteps := 1000000) (disch := first | exact dq | fail) only [go_sem, hil2]))
        all_goals (try omega)
        refine ⟨i + 1, by omega, wk_by [0, 1, 2, 3, 4] ?_, by omega⟩
        (simp (maxSteps := 1000000) (disch := first | exact dq | fail) only [go_sem, hA, List.map_append, hcx])
        try rfl
      · obtain rfl : i = B.length := by omega
        rw [List.take_length] at hil2 ⊢
        have k2 : List.take B.length (B.map ndV) = B.map ndV := List.take_of_length_le (by rw [List.length_map]; omega)
        have cs2 : (((B.length : Int) < t.nodes.length) = False ∧ bt [] 0 = 0) ∨ (((B.length : Int) < t.nodes.length) = True ∧ ((B.length : Int) < 30) = False) := by
          by_cases c : (B.length : Int) < t.nodes.length
          · exact .inr ⟨eq_true c, eq_false (by omega)⟩
          · exact .inl ⟨eq_false c, rfl⟩
        rcases cs2 with ⟨c3, c4⟩ | ⟨c3, c4⟩
        all_goals (
          (repeat' (first | refine Nx.go ?_ | fail) <;> try (simp (maxSteps := 1000000) (disch := first | exact dq | fail) only [go_sem, c3, c4, decide_true, decide_false, k1, k2, Nat.le_refl, if_true]))
          all_goals (try omega)
          all_goals (first | exact ⟨_, rfl, Sq.refl _⟩ | exact Sq.refl _)))
end Go.Proofs.Ytnijpeeehnnipaa.AM
