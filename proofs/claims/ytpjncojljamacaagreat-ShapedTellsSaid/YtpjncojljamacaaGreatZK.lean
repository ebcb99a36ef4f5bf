
/- Chapter 5: the library's functions at rows of heaps: Insert at the end, Clone, BinarySearchFunc; Grow of none and Concat. Lengths that fit. -/
import Derived.Test.YtpjncojljamacaaGreatZJ
set_option linter.unusedVariables false
set_option linter.unusedSimpArgs false
set_option maxRecDepth 20000
namespace Go.Proofs
open Go Go.Shelf Go.RowKit Go.Lib

set_option maxHeartbeats 4000000 in
set_option maxRecDepth 100000 in
theorem Tryz.growNil (A : Option Addr) (B k G : Nat) (w W1 : World) (hk : 0 < k) (hk63 : k ≤ 9223372036854775807) (hG : k ≤ G) (hG63 : G ≤ 9223372036854775807)
    (hrz : ∀ ty, (Builtin.append_ #[22, 3] ty #[.slice A 0 0, .int .i64 k]).run Tryz.prog w = .ok (.slice (some ⟨B, 0, none⟩) k G) W1) :
    Calls Tryz.prog 79 #[.slice A 0 0, .int .i64 k] w fun e w' => e = .returned (.slice (some ⟨B, 0, none⟩) 0 G) ∧ w' = W1 := by
  have t62 := Tryz.underlying22; have a62 := Tryz.isAgg22; have z62 := Tryz.sizeOf22; have v62 := Tryz.zeroValue22
  have t3 := Tryz.underlying3; have a3 := Tryz.isAgg3; have z3 := Tryz.sizeOf3; have v3 := Tryz.zeroValue3
  have t4 := Tryz.underlying4; have a4 := Tryz.isAgg4; have z4 := Tryz.sizeOf4; have v4 := Tryz.zeroValue4
  have u3 := run_underlying t3; have u4 := run_underlying t4; have u62 := run_underlying t62
  have mixed : Tryz.prog.follows Departure.mixedOrders = true := by kernel_rfl
  have h1 : ¬ ((k : Int) < 0) := by omega
  have h2 : (0 : Int) < (k : Int) := by omega
  have hw1 : IntKind.i64.wrap (k : Int) = (k : Int) := by rw [IntKind.wrap_i64]; omega
  have h0 : IntKind.i64.wrap 0 = 0 := by rw [IntKind.wrap_i64]; decide
  go_enter Tryz.func79, Tryz.ntmps79
  go_wp2_with (at_builtin; refine Lib.wpList_append_run _ rfl _ _ _ _ rfl _ _ rfl rfl _ _ (hrz _) ?_)
  go_ret
  exact ⟨rfl, rfl⟩

set_option maxHeartbeats 4000000 in
set_option maxRecDepth 100000 in
theorem Tryz.growNil0 (A : Option Addr) (w : World) :
    Calls Tryz.prog 79 #[.slice A 0 0, .int .i64 (0 : Nat)] w fun e w' => e = .returned (.slice A 0 0) ∧ w' = w := by
  have t62 := Tryz.underlying22; have a62 := Tryz.isAgg22; have z62 := Tryz.sizeOf22; have v62 := Tryz.zeroValue22
  have t3 := Tryz.underlying3; have a3 := Tryz.isAgg3; have z3 := Tryz.sizeOf3; have v3 := Tryz.zeroValue3
  have t4 := Tryz.underlying4; have a4 := Tryz.isAgg4; have z4 := Tryz.sizeOf4; have v4 := Tryz.zeroValue4
  have u3 := run_underlying t3; have u4 := run_underlying t4; have u62 := run_underlying t62
  have mixed : Tryz.prog.follows Departure.mixedOrders = true := by kernel_rfl
  have h0 : IntKind.i64.wrap 0 = 0 := by rw [IntKind.wrap_i64]; decide
  go_enter Tryz.func79, Tryz.ntmps79
  go_wp2
  go_ret
  exact ⟨rfl, rfl⟩
end Go.Proofs
namespace Go.Proofs.YtpjncojljamacaaGreat.AM
open Go Go.RowKit

@[go_sem] theorem zr_hea : List.mapM constIVcell [Value.int IntKind.i64 0, Value.int IntKind.i64 0, Value.slice none 0 0] = some [.int .i64 0, .int .i64 0, .sl 0 []] := rfl

theorem Insert_eq (xs : List IV) (h : IV) (hb : (xs.length + 1) * 40 ≤ 140737488355328) :
    MCalls Tryz.prog 62 [.msl 0 0 xs.length xs.length, .iv (.int .i64 xs.length), .msl 1 0 1 1] [.row true 84 3 xs, .row true 84 3 [h]] (.msl 0 0 (xs.length + 1) (xs.length + 1)) [.row true 84 3 (xs ++ [h]), .row true 84 3 [h]] := by
  refine MCalls.of_aw Tryz.func62 rfl (by unfold Callable; kernel_rfl) (by kernel_rfl) (by simp [Tryz.ntmps62]) (by (simp (disch := first | exact dq | fail) only [go_sem])) ?_; rw [Tryz.ntmps62, Tryz.results62]; (simp (disch := first | exact dq | fail) only [go_sem])
  (repeat' first
  | ((with_reducible first | refine Nx.go ?_ | refine rP ?_ | refine rR ?_ | refine And.intro ?_ ?_ | fail) <;> try (simp (disch := first | exact dq | fail) only [go_sem]))
  | ((with_reducible refine Sp.go ?_ ?_) <;> intro h <;> (try (simp (disch := first | exact dq | fail) only [go_sem] at h)) <;> try (simp (disch := first | exact dq | fail) only [go_sem, h])) | fail)
  all_goals (try omega)
  refine fin_k [0, 1] ?_
  (simp (disch := first | exact dq | fail) only [go_sem])

theorem Clone_h (xs : List IV) (h : 0 < xs.length) (hl : xs.length ≤ 1000000) : MCalls Tryz.prog 63 [.iv (.sl 3 xs)] [] (.msl 0 0 xs.length xs.length) [.row true 84 3 xs] := by
  refine MCalls.of_aw Tryz.func63 rfl (by unfold Callable; kernel_rfl) (by kernel_rfl) (by simp [Tryz.ntmps63]) (by (simp (disch := first | exact dq | fail) only [go_sem])) ?_; rw [Tryz.ntmps63, Tryz.results63]; (simp (disch := first | exact dq | fail) only [go_sem])
  (repeat' first
  | ((with_reducible first | refine Nx.go ?_ | refine rP ?_ | refine rR ?_ | refine And.intro ?_ ?_ | fail) <;> try (simp (disch := first | exact dq | fail) only [go_sem]))
  | ((with_reducible refine Sp.go ?_ ?_) <;> intro h <;> (try (simp (disch := first | exact dq | fail) only [go_sem] at h)) <;> try (simp (disch := first | exact dq | fail) only [go_sem, h])) | fail)
  all_goals (try omega)
  refine fin_k [1] ?_
  (simp (disch := first | exact dq | fail) only [go_sem])

theorem Clone_h0 : MCalls Tryz.prog 63 [.iv (.sl 3 [])] [] (.msl 0 0 0 0) [.row true 84 3 []] := by
  refine MCalls.of_aw Tryz.func63 rfl (by unfold Callable; kernel_rfl) (by kernel_rfl) (by simp [Tryz.ntmps63]) (by (simp (disch := first | exact dq | fail) only [go_sem])) ?_; rw [Tryz.ntmps63, Tryz.results63]; (simp (disch := first | exact dq | fail) only [go_sem])
  ((with_reducible refine aw_seq ?_); (with_reducible refine aw_region (aops_run ?_)); try (simp (disch := first | exact dq | fail) only [go_sem]))
  refine aw_seq (aw_seq (aw_region ?_))
  refine aops_oneq .p (.iv (.sl 3 [])) _ rfl rfl ?_
  refine aops_nil 82 82 (.tmp 3) 3 rfl rfl (by (simp (disch := first | exact dq | fail) only [go_sem])) (by (simp (disch := first | exact dq | fail) only [go_sem])) ?_
  intro b
  (simp (disch := first | exact dq | fail) only [go_sem])
  cases b
  · (repeat' first
  | ((with_reducible first | refine Nx.go ?_ | refine rP ?_ | refine rR ?_ | refine And.intro ?_ ?_ | fail) <;> try (simp (disch := first | exact dq | fail) only [go_sem]))
  | ((with_reducible refine Sp.go ?_ ?_) <;> intro h <;> (try (simp (disch := first | exact dq | fail) only [go_sem] at h)) <;> try (simp (disch := first | exact dq | fail) only [go_sem, h])) | fail)
    refine fin_k [1] ?_
    (simp (disch := first | exact dq | fail) only [go_sem])
  · (repeat' first
  | ((with_reducible first | refine Nx.go ?_ | refine rP ?_ | refine rR ?_ | refine And.intro ?_ ?_ | fail) <;> try (simp (disch := first | exact dq | fail) only [go_sem]))
  | ((with_reducible refine Sp.go ?_ ?_) <;> intro h <;> (try (simp (disch := first | exact dq | fail) only [go_sem] at h)) <;> try (simp (disch := first | exact dq | fail) only [go_sem, h])) | fail)
    refine fin_k [1] ?_
    (simp (disch := first | exact dq | fail) only [go_sem])

theorem order_M (a b : Hea) : MCalls Tryz.prog 57 [.iv (hpV a), .iv (hpV b)] [] (.iv (.int .i64 (cmpH a b))) [] := by
  have h1 := cmp_spec a.w b.w
  have h2 := cmp_spec a.n b.n
  have h3 := Or2_spec (if a.w < b.w then -1 else if b.w < a.w then 1 else 0) (if a.n < b.n then -1 else if b.n < a.n then 1 else 0)
  have he : (if (if a.w < b.w then (-1 : Int) else if b.w < a.w then 1 else 0) = 0 then (if a.n < b.n then (-1 : Int) else if b.n < a.n then 1 else 0) else (if a.w < b.w then (-1 : Int) else if b.w < a.w then 1 else 0)) = cmpH a b := by
    unfold cmpH
    repeat' split
    all_goals first | rfl | omega
  rw [he] at h3
  generalize (if a.w < b.w then (-1 : Int) else if b.w < a.w then 1 else 0) = x at *
  generalize (if a.n < b.n then (-1 : Int) else if b.n < a.n then 1 else 0) = y at *
  unfold hpV inl at *
  simp only [List.map_cons, List.map_nil] at h3
  refine MCalls.of_aw Tryz.func57 rfl (by unfold Callable; kernel_rfl) (by kernel_rfl) (by simp [Tryz.ntmps57]) (by (simp (disch := first | exact dq | fail) only [go_sem])) ?_; rw [Tryz.ntmps57, Tryz.results57]; (simp (disch := first | exact dq | fail) only [go_sem])
  (repeat' first
  | ((with_reducible first | refine Nx.go ?_ | (refine aw_regionD cwF mixed ?_ (dops_runF ?_); (· kernel_rfl)) | refine And.intro ?_ ?_ | fail) <;> try (simp (disch := first | exact dq | fail) only [go_sem]))
  | ((with_reducible refine Sp.go ?_ ?_) <;> intro h <;> (try (simp (disch := first | exact dq | fail) only [go_sem] at h)) <;> try (simp (disch := first | exact dq | fail) only [go_sem, h])) | fail)
  ((with_reducible first | apply left_callf | apply leftD_callf | apply leftF_callf); (· with_reducible rfl); (· (simp (disch := first | exact dq | fail) only [go_sem]) <;> rfl); (· exact h1); try (simp (disch := first | exact dq | fail) only [go_sem]))
  ((with_reducible first | apply left_callf | apply leftD_callf | apply leftF_callf); (· with_reducible rfl); (· (simp (disch := first | exact dq | fail) only [go_sem]) <;> rfl); (· exact h2); try (simp (disch := first | exact dq | fail) only [go_sem]))
  ((with_reducible first | apply left_callf | apply leftD_callf | apply leftF_callf); (· with_reducible rfl); (· (simp (disch := first | exact dq | fail) only [go_sem]) <;> rfl); (· exact h3); try (simp (disch := first | exact dq | fail) only [go_sem]))
  (repeat' first
  | ((with_reducible first | refine Nx.go ?_ | refine rP ?_ | refine rR ?_ | refine And.intro ?_ ?_ | fail) <;> try (simp (disch := first | exact dq | fail) only [go_sem]))
  | ((with_reducible refine Sp.go ?_ ?_) <;> intro h <;> (try (simp (disch := first | exact dq | fail) only [go_sem] at h)) <;> try (simp (disch := first | exact dq | fail) only [go_sem, h])) | fail)
  refine fin_k [] ?_
  (simp (disch := first | exact dq | fail) only [go_sem])

theorem Bsf_spec (l : List Hea) (h : Hea) (hl : l.length ≤ 1000000) (hs : l.Pairwise ltH) :
    ∃ v, PCalls Tryz.prog 61 [.sl 3 (l.map hpV), hpV h, .fnc 57] (.tup [.int .i64 (posH h l), .bool v]) := by
  refine ⟨decide (posH h l < l.length) && decide (cmpH (l.getD (posH h l) hp0) h = 0), ?_⟩
  have hlen : (l.map hpV).length = l.length := List.length_map _
  have hget : ∀ i, i < l.length → (l.map hpV)[i]? = some (hpV (l.getD i hp0)) := fun i hi => by simp [List.getD, List.getElem?_eq_getElem hi]
  have hpos := fun i hi => pos_at (h := h) hs (i := i) hi
  have hple := posH_le h l
  have hO := order_M
  simp only [hpV_e h]
  refine PCalls.of_aw Tryz.func61 rfl (by unfold Callable; kernel_rfl) (by kernel_rfl) (by simp [Tryz.ntmps61]) ?_; rw [Tryz.ntmps61, Tryz.results61]; (simp (disch := first | exact dq | fail) only [go_sem])
  (repeat' first
  | ((with_reducible first | refine Nx.go ?_ | refine rP ?_ | refine rR ?_ | refine And.intro ?_ ?_ | fail) <;> try (simp (disch := first | exact dq | fail) only [go_sem]))
  | ((with_reducible refine Sp.go ?_ ?_) <;> intro h <;> (try (simp (disch := first | exact dq | fail) only [go_sem] at h)) <;> try (simp (disch := first | exact dq | fail) only [go_sem, h])) | fail)
  refine aw_loop (α := Nat × Nat) (fun y => ⟨49, sl [(0, .iv (.sl 3 (l.map hpV))), (2, .iv (.fnc 57)), (4, .mp 0 0), (8, .iv (.int .i64 l.length)), (9, .iv (.int .i64 y.1)), (10, .iv (.int .i64 y.2))], [.var 84 [.iv (.int .i64 h.w), .iv (.int .i64 h.n), .iv (inl h.s)]], 0⟩)
    (fun y => (y.1 ≤ y.2 ∧ y.2 ≤ l.length) ∧ y.1 ≤ posH h l ∧ posH h l ≤ y.2) (fun y => y.2 - y.1) (0, l.length) (wk_by [0] ?_) ⟨by dsimp only; omega, by dsimp only; omega, by dsimp only; omega⟩ ?_
  · (simp (disch := first | exact dq | fail) only [go_sem])
  rintro ⟨i, j⟩ ⟨hij, hlo, hhi⟩
  dsimp only at hij hlo hhi
  by_cases hlt : i < j
  · have eh : (((i : Int) + j) / 2).toNat = (i + j) / 2 := by omega
    have c0 : ((i : Int) < j) := by omega
    have hg := hget ((i + j) / 2) (by omega)
    have hp := hpos ((i + j) / 2) (by omega)
    generalize l.getD ((i + j) / 2) hp0 = g at *
    have hOg := hO g h
    simp only [hpV_e] at hg hOg
    have hc := cmpH_lt g h
    by_cases hless : cmpH g h < 0
    · have hi2 := hp.2 (hc.1 hless)
      (repeat' first
  | ((with_reducible first | refine Nx.go ?_ | refine rW ?_ | refine And.intro ?_ ?_ | fail) <;> try (simp (disch := first | exact dq | fail) only [go_sem, c0, fdiv2, eh, decide_true, hlen, hg]))
  | ((with_reducible refine Sp.go ?_ ?_) <;> intro h <;> (try (simp (disch := first | exact dq | fail) only [go_sem] at h)) <;> try (simp (disch := first | exact dq | fail) only [go_sem, h, c0, fdiv2, eh, decide_true, hlen, hg])) | fail)
      all_goals (try omega)
      ((first | with_reducible refine left_callMs [] (hOg) ?_ ?_ | with_reducible refine leftD_callMs [] rfl (hOg) ?_ ?_ | with_reducible refine leftD_callRs [] (by decide) (hOg) ?_ ?_); (· (simp (disch := first | exact dq | fail) only [go_sem])); try (simp (disch := first | exact dq | fail) only [go_sem]))
      (repeat' first
  | ((with_reducible first | refine Nx.go ?_ | refine rP ?_ | refine rR ?_ | refine And.intro ?_ ?_ | fail) <;> try (simp (disch := first | exact dq | fail) only [go_sem, hless, decide_true]))
  | ((with_reducible refine Sp.go ?_ ?_) <;> intro h <;> (try (simp (disch := first | exact dq | fail) only [go_sem] at h)) <;> try (simp (disch := first | exact dq | fail) only [go_sem, h, hless, decide_true])) | fail)
      all_goals (try omega)
      refine ⟨((i + j) / 2 + 1, j), ⟨by dsimp only; omega, by dsimp only; omega, by dsimp only; omega⟩, wk_by [0] ?_, by dsimp only; omega⟩
      (simp (disch := first | exact dq | fail) only [go_sem])
      congr 2
    · have hi2 : ¬ ((i + j) / 2 < posH h l) := fun hh => hless (hc.2 (hp.1 hh))
      (repeat' first
  | ((with_reducible first | refine Nx.go ?_ | refine rW ?_ | refine And.intro ?_ ?_ | fail) <;> try (simp (disch := first | exact dq | fail) only [go_sem, c0, fdiv2, eh, decide_true, hlen, hg]))
  | ((with_reducible refine Sp.go ?_ ?_) <;> intro h <;> (try (simp (disch := first | exact dq | fail) only [go_sem] at h)) <;> try (simp (disch := first | exact dq | fail) only [go_sem, h, c0, fdiv2, eh, decide_true, hlen, hg])) | fail)
      all_goals (try omega)
      ((first | with_reducible refine left_callMs [] (hOg) ?_ ?_ | with_reducible refine leftD_callMs [] rfl (hOg) ?_ ?_ | with_reducible refine leftD_callRs [] (by decide) (hOg) ?_ ?_); (· (simp (disch := first | exact dq | fail) only [go_sem])); try (simp (disch := first | exact dq | fail) only [go_sem]))
      (repeat' first
  | ((with_reducible first | refine Nx.go ?_ | refine rP ?_ | refine rR ?_ | refine And.intro ?_ ?_ | fail) <;> try (simp (disch := first | exact dq | fail) only [go_sem, hless, decide_false]))
  | ((with_reducible refine Sp.go ?_ ?_) <;> intro h <;> (try (simp (disch := first | exact dq | fail) only [go_sem] at h)) <;> try (simp (disch := first | exact dq | fail) only [go_sem, h, hless, decide_false])) | fail)
      all_goals (try omega)
      refine ⟨(i, (i + j) / 2), ⟨by dsimp only; omega, by dsimp only; omega, by dsimp only; omega⟩, wk_by [0] ?_, by dsimp only; omega⟩
      (simp (disch := first | exact dq | fail) only [go_sem])
      congr 2
  · have hi : posH h l = i := by omega
    rw [hi]
    have c0 : ¬ ((i : Int) < j) := by omega
    by_cases hil : i < l.length
    · have c1 : ((i : Int) < l.length) := by omega
      have hg := hget i hil
      generalize l.getD i hp0 = g at *
      have hOg := hO g h
      simp only [hpV_e] at hg hOg
      (repeat' first
  | ((with_reducible first | refine Nx.go ?_ | refine rW ?_ | refine And.intro ?_ ?_ | fail) <;> try (simp (disch := first | exact dq | fail) only [go_sem, c0, c1, decide_true, decide_false, hlen, hg]))
  | ((with_reducible refine Sp.go ?_ ?_) <;> intro h <;> (try (simp (disch := first | exact dq | fail) only [go_sem] at h)) <;> try (simp (disch := first | exact dq | fail) only [go_sem, h, c0, c1, decide_true, decide_false, hlen, hg])) | fail)
      all_goals (try omega)
      ((first | with_reducible refine left_callMs [] (hOg) ?_ ?_ | with_reducible refine leftD_callMs [] rfl (hOg) ?_ ?_ | with_reducible refine leftD_callRs [] (by decide) (hOg) ?_ ?_); (· (simp (disch := first | exact dq | fail) only [go_sem])); try (simp (disch := first | exact dq | fail) only [go_sem]))
      (repeat' first
  | ((with_reducible first | refine Nx.go ?_ | refine rP ?_ | refine rR ?_ | refine And.intro ?_ ?_ | fail) <;> try (simp (disch := first | exact dq | fail) only [go_sem]))
  | ((with_reducible refine Sp.go ?_ ?_) <;> intro h <;> (try (simp (disch := first | exact dq | fail) only [go_sem] at h)) <;> try (simp (disch := first | exact dq | fail) only [go_sem, h])) | fail)
      all_goals (try omega)
      all_goals (simp (disch := first | exact dq | fail) only [go_sem, hil, decide_true, Bool.true_and])
    · have c1 : ¬ ((i : Int) < l.length) := by omega
      (repeat' first
  | ((with_reducible first | refine Nx.go ?_ | refine rP ?_ | refine rR ?_ | refine And.intro ?_ ?_ | fail) <;> try (simp (disch := first | exact dq | fail) only [go_sem, c0, c1, decide_false, hlen]))
  | ((with_reducible refine Sp.go ?_ ?_) <;> intro h <;> (try (simp (disch := first | exact dq | fail) only [go_sem] at h)) <;> try (simp (disch := first | exact dq | fail) only [go_sem, h, c0, c1, decide_false, hlen])) | fail)
      all_goals (try omega)
      all_goals (simp (disch := first | exact dq | fail) only [go_sem, hil, decide_false, Bool.false_and])

theorem Grow_M (k : Nat) (hk : k ≤ 1000000) : MCalls Tryz.prog 79 [.nilsl, .iv (.int .i64 k)] [] (.msl 0 0 0 0) [.row true 3 1 []] := by
  refine ⟨by unfold Callable; kernel_rfl, by simp, fun X w ρ vs hm hl hv => ?_⟩
  match vs, hl, hv with
  | [v0, v1], _, hv =>
    have r0 := hv 0 _ v0 rfl rfl
    have r1 := hv 1 _ v1 rfl rfl
    obtain ⟨A, rfl⟩ := inv_nilsl r0
    cases r1 with
    | iv _ _ r1 =>
    cases r1
    by_cases h0 : k = 0
    · subst h0
      refine (Tryz.growNil0 A w).mono ?_
      rintro e w' ⟨rfl, rfl⟩
      obtain ⟨g1, g2, g3⟩ := nilrow_ok hm 3 1
      exact ⟨_, _, rfl, g1, g3 _ A, fun x u hx => hx.mono g2⟩
    · obtain ⟨_, i0, hi0, hzs, hzb, hz, hzc, _, _⟩ := tElem_spec (tElem22)
      simp only at hi0 hzs hzb hz hzc
      obtain ⟨G, hG⟩ : ∃ G, G = grownCap w k 0 3 := ⟨_, rfl⟩
      have hGn : k ≤ G := by rw [hG]; exact grownCap_ge w _ _ _
      have hG63 : G ≤ 9223372036854775807 := by
        have := grownCap_le_maxLen w k 0 3 (by unfold maxLen; omega)
        rw [← hG] at this; unfold maxLen at this; omega
      have hh := fun ty => Lib.run_append_grow_zeros (P := Tryz.prog) w 22 3 ty 3 i0 _ .i64 .i64 Tryz.underlying22 Tryz.underlying3 hi0 hz A 0 0 [] (by cases A <;> simp [Builtin.firstCells, loadCells, loadCellsFrom]) k (by omega) (by omega) (by omega) (by omega) (by rw [hzb]; omega) (by rw [hzb, Nat.zero_add]; exact growslice_fits (by omega) (by omega))
      simp only [Nat.zero_add, ← hG] at hh
      generalize hROW : (([] : List Value).toArray ++ Builtin.zeroCells (Value.int .i64 0).cells k ++ Builtin.zeroCells (Value.int .i64 0).cells (G - k)) = ROW at hh
      have hRs : ROW.size = G := by
        rw [← hROW]; simp only [Array.size_append, size_zeroCells, hzc, List.size_toArray, List.length_nil]; omega
      refine (Tryz.growNil A w.heap.size k G w _ (by omega) (by omega) hGn hG63 hh).mono ?_
      rintro e w' ⟨rfl, rfl⟩
      have hn : News w (w.drew.alloc (.cells ROW 3)) (.cells ROW 3 (0, 0)) := ⟨rfl, rfl, rfl, rfl⟩
      obtain ⟨v, M2, w2, ρ2, q1, q2, q3, q4, q5⟩ := step_newrow (P := Tryz.prog) hm 3 (sz := 1) (xs := []) (arr := ROW) (cap := G) (Nat.zero_le _) (by omega) (by simp) (by simp) hn (r := .ok (.value (.slice (some ⟨w.heap.size, 0, none⟩) 0 G)) (w.drew.alloc (.cells ROW 3))) rfl
      cases q1
      rcases q2 with q2 | ⟨q2, _⟩
      · cases q2
        exact ⟨_, _, rfl, q4, q3, fun x u hx => hx.mono q5⟩
      · cases q2

theorem Concat_spec (a b : List Int) (ha : a.length + b.length ≤ 1000000) : PCalls Tryz.prog 60 [.sl 1 [inl a, inl b]] (inl (a ++ b)) := by
  have hG := Grow_M (a.length + b.length) ha
  rw [Int.natCast_add] at hG
  unfold inl
  refine PCalls.of_aw Tryz.func60 rfl (by unfold Callable; kernel_rfl) (by kernel_rfl) (by simp [Tryz.ntmps60]) ?_; rw [Tryz.ntmps60, Tryz.results60]; (simp (disch := first | exact dq | fail) only [go_sem])
  (repeat' first
  | ((with_reducible first | refine Nx.go ?_ | refine rP ?_ | refine rR ?_ | refine And.intro ?_ ?_ | refine aw_rounds 64 ?_ | refine awN_step ?_ | fail) <;> try (simp (disch := first | exact dq | fail) only [go_sem]))
  | ((with_reducible refine Sp.go ?_ ?_) <;> intro h <;> (try (simp (disch := first | exact dq | fail) only [go_sem] at h)) <;> try (simp (disch := first | exact dq | fail) only [go_sem, h])) | fail)
  all_goals (try omega)
  ((first | with_reducible refine left_callMs [] (hG) ?_ ?_ | with_reducible refine leftD_callMs [] rfl (hG) ?_ ?_ | with_reducible refine leftD_callRs [] (by decide) (hG) ?_ ?_); (· (simp (disch := first | exact dq | fail) only [go_sem])); try (simp (disch := first | exact dq | fail) only [go_sem]))
  (repeat' first
  | ((with_reducible first | refine Nx.go ?_ | refine rP ?_ | refine rR ?_ | refine And.intro ?_ ?_ | refine aw_rounds 64 ?_ | refine awN_step ?_ | fail) <;> try (simp (disch := first | exact dq | fail) only [go_sem]))
  | ((with_reducible refine Sp.go ?_ ?_) <;> intro h <;> (try (simp (disch := first | exact dq | fail) only [go_sem] at h)) <;> try (simp (disch := first | exact dq | fail) only [go_sem, h])) | fail)
  all_goals (try omega)
  all_goals rw [List.take_of_length_le (by simp), List.map_append]

theorem Insert_all (xs : List IV) (h : IV) (i : Nat) (hi : i ≤ xs.length) (hb : (xs.length + 1) * 40 ≤ 140737488355328) :
    MCalls Tryz.prog 62 [.msl 0 0 xs.length xs.length, .iv (.int .i64 i), .msl 1 0 1 1] [.row true 84 3 xs, .row true 84 3 [h]] (.msl 0 0 (xs.length + 1) (xs.length + 1)) [.row true 84 3 (xs.take i ++ [h] ++ xs.drop i), .row true 84 3 [h]] := by
  by_cases e : i = xs.length
  · subst e
    have := Insert_eq xs h hb
    rwa [List.take_length, List.drop_length, List.append_nil]
  · exact Insert_lt xs h i (by omega) hb

theorem Clone_hs (xs : List IV) (hl : xs.length ≤ 1000000) : MCalls Tryz.prog 63 [.iv (.sl 3 xs)] [] (.msl 0 0 xs.length xs.length) [.row true 84 3 xs] := by
  by_cases e : xs = []
  · subst e; exact Clone_h0
  · exact Clone_h xs (List.length_pos_iff.2 e) hl

/-! ### a region in any order, with branches where two operations cannot be put the other way round -/
section
variable {P : Program} {ops : List Oper} {cw : Oper → Cls} {K : St → Prop} {n : Nat} {listed : Array Bool} {s : St}
theorem aAny_pick (k : Nat) {o : Oper} (hk : ops[k]? = some o) (hB : ((rdy ops listed).contains k && freeA cw ops listed k o (reach ops k)) = true)
    (hd : dops P cw ops [o] (aAny P cw ops K n (listed.setIfInBounds k true)) s) : aAny P cw ops K (n + 1) listed s := by
  simp only [Bool.and_eq_true] at hB
  obtain ⟨hr, hf⟩ := hB
  obtain ⟨v, M', h1, h2⟩ := hd
  simp only [freeA, Bool.and_eq_true, List.all_eq_true] at hf
  obtain ⟨hD, hfr⟩ := hf
  refine aAny_first (D := reach ops k) hk (fun j hj => ?_) n listed s v M' (fun j oj hj hne hun hnD => ?_) (fun j hj => ?_) (by simpa using hr) h1 h2
  · have := (hD j hj).2
    cases hoj : ops[j]? with
    | none => rw [hoj] at this; cases this
    | some oj =>
      rw [hoj] at this
      obtain ⟨e, he, hb⟩ := Array.any_eq_true'.1 this
      simp only [Bool.and_eq_true, Bool.or_eq_true, beq_iff_eq, List.contains_iff_mem] at hb
      exact ⟨oj, rfl, e, he, hb.1, hb.2⟩
  · have := hfr j (List.mem_range.2 (lt_of_get hj))
    rw [hj] at this
    simp only [Bool.or_eq_true, beq_iff_eq, hne, false_or, hun, Bool.false_eq_true, List.contains_iff_mem, hnD] at this
    exact this
  · have := (hD j hj).1
    simpa using this
theorem aAny_two (i j : Nat) {oi oj : Oper} (hi : ops[i]? = some oi) (hj : ops[j]? = some oj) (hr : rdy ops listed = [i, j])
    (h1 : dops P cw ops [oi] (aAny P cw ops K n (listed.setIfInBounds i true)) s) (h2 : dops P cw ops [oj] (aAny P cw ops K n (listed.setIfInBounds j true)) s) : aAny P cw ops K (n + 1) listed s := by
  refine ⟨fun h => (by rw [hr] at h; cases h), fun k hk => ?_⟩
  rw [hr] at hk
  simp only [List.mem_cons, List.not_mem_nil, or_false] at hk
  rcases hk with rfl | rfl
  · unfold aStep; rw [hi]; exact h1
  · unfold aStep; rw [hj]; exact h2
theorem aAny_end (hr : rdy ops listed = []) (h : K s) : aAny P cw ops K 0 listed s := ⟨hr, h⟩
theorem aw_regionAny {id : Nat} {Q : Exit → St → Prop} (cw : Oper → Cls) (hm : P.follows .mixedOrders = true) (h : aAny P cw ops (fun s' => s'.n = s.n ∧ Q .normal s') ops.length (Array.replicate ops.length false) s) : aw P (.region id ops.toArray true) Q s := by
  intro rd hb X O w0 F ρ a w hs
  have hd : ∀ o ∈ ops, ∀ x, o.dst = some x → x < s.n := by
    intro o ho x hx
    simp only [bnd, List.all_eq_true] at hb
    have := hb o ho
    simp only [dstOk, hx, decide_eq_true_eq] at this
    exact this
  refine wpIn_region_any hm ?_
  rw [List.size_toArray]
  exact aAny_sound (K := fun s' => s'.n = s.n ∧ Q .normal s') (fun s' ρ' a' w' h1 h2 => ⟨s', ρ', h2.1, h1, h2.2⟩) ops.length _ s ρ a _ hd h (hs.drawn _)
end

end Go.Proofs.YtpjncojljamacaaGreat.AM
