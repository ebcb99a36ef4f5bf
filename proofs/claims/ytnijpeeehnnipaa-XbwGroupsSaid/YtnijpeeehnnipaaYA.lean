
/- Chapter 15's trees: parents, symbols, ways up, of the document and of the program. No condition but lengths that fit. -/
import Derived.Test.YtnijpeeehnnipaaXA
set_option linter.unusedVariables false
set_option linter.unusedSimpArgs false
set_option maxRecDepth 20000
namespace Go.Proofs.Ytnijpeeehnnipaa.AM
open Go Go.RowKit

theorem getNd {t : Tr} {i : Nat} (h : i < t.nodes.length) : t.nodes[i]? = some (t.at i) := by simp [Tr.at, List.getD, List.getElem?_eq_getElem h]
theorem ndV_e (n : Nd) : ndV n = .agg [.int .i64 n.kind, .int .i64 n.name, .int .i64 n.par, .str (bs n.val)] := rfl
theorem parF_in {t : Tr} {i : Nat} (h : i < t.nodes.length) : parF t i = if 0 ≤ (t.at i).par ∧ (t.at i).par < i then (t.at i).par else -1 := by
  have e : (i : Int).toNat = i := Int.toNat_natCast i
  unfold parF Tr.len
  rw [e]
  by_cases c : 0 ≤ (t.at i).par ∧ (t.at i).par < i
  · rw [if_pos c, if_pos ⟨by omega, by omega, c⟩]
  · rw [if_neg c, if_neg (fun h => c h.2.2)]
theorem parF_out {t : Tr} {i : Int} (h : ¬ (0 ≤ i ∧ i < t.nodes.length)) : parF t i = -1 := by
  unfold parF
  rw [if_neg]
  intro c
  exact h ⟨c.1, c.2.1⟩
theorem symF_out {t : Tr} {i : Int} (h : ¬ (0 ≤ i ∧ i < t.nodes.length)) : symF t i = -1 := by
  unfold symF Tr.len
  rw [if_neg h]
theorem symF_in {t : Tr} {i : Nat} (h : i < t.nodes.length) : symF t i = if (t.at i).kind ≠ 1 ∧ (t.at i).kind ≠ 2 then (2 * t.names.length : Int) else if 0 ≤ (t.at i).name ∧ (t.at i).name < t.names.length then (if (t.at i).kind = 2 then 2 * (t.at i).name + 1 else 2 * (t.at i).name) else -1 := by
  have e : (i : Int).toNat = i := Int.toNat_natCast i
  unfold symF Tr.len
  rw [e, if_pos (by omega)]

theorem RefParent15_spec (t : Tr) (i : Int) (hl : t.nodes.length ≤ 1000000) : PCalls Try.prog 19 [trV t, .int .i64 i] (.int .i64 (parF t i)) := by
  unfold trV
  by_cases h : 0 ≤ i ∧ i < t.nodes.length
  · obtain ⟨k, rfl⟩ : ∃ k : Nat, i = k := ⟨i.toNat, by omega⟩
    have hk : k < t.nodes.length := by omega
    have hg := getNd hk
    have hp := parF_in hk
    have he := ndV_e (t.at k)
    have c1 : ((k : Int) < 0) = False := eq_false (by omega)
    have c2 : ((k : Int) ≥ t.nodes.length) = False := eq_false (by omega)
    rw [hp]
    generalize t.at k = x at *
    by_cases c3 : x.par < 0
    · rw [if_neg (by omega)]
      refine PCalls.of_aw Try.func19 rfl (by unfold Callable; kernel_rfl) (by kernel_rfl) (by simp [Try.ntmps19]) ?_; rw [Try.ntmps19, Try.results19]; (simp (disch := first | exact dq | fail) only [go_sem])
      (repeat' (with_reducible first | refine Nx.go ?_ | refine And.intro ?_ ?_ | fail) <;> try (simp (disch := first | exact dq | fail) only [go_sem, c1, c2, hg, he, eq_true c3, decide_true, decide_false]))
      all_goals (try omega)
    · by_cases c4 : x.par ≥ k
      · rw [if_neg (by omega)]
        refine PCalls.of_aw Try.func19 rfl (by unfold Callable; kernel_rfl) (by kernel_rfl) (by simp [Try.ntmps19]) ?_; rw [Try.ntmps19, Try.results19]; (simp (disch := first | exact dq | fail) only [go_sem])
        (repeat' (with_reducible first | refine Nx.go ?_ | refine And.intro ?_ ?_ | fail) <;> try (simp (disch := first | exact dq | fail) only [go_sem, c1, c2, hg, he, eq_false c3, eq_true c4, decide_true, decide_false]))
        all_goals (try omega)
      · rw [if_pos (by omega)]
        refine PCalls.of_aw Try.func19 rfl (by unfold Callable; kernel_rfl) (by kernel_rfl) (by simp [Try.ntmps19]) ?_; rw [Try.ntmps19, Try.results19]; (simp (disch := first | exact dq | fail) only [go_sem])
        (repeat' (with_reducible first | refine Nx.go ?_ | refine And.intro ?_ ?_ | fail) <;> try (simp (disch := first | exact dq | fail) only [go_sem, c1, c2, hg, he, eq_false c3, eq_false c4, decide_true, decide_false]))
        all_goals (try omega)
  · rw [parF_out h]
    refine PCalls.of_aw Try.func19 rfl (by unfold Callable; kernel_rfl) (by kernel_rfl) (by simp [Try.ntmps19]) ?_; rw [Try.ntmps19, Try.results19]; (simp (disch := first | exact dq | fail) only [go_sem])
    by_cases c1 : i < 0
    · (repeat' (first | refine Nx.go ?_ | fail) <;> try (simp (disch := first | exact dq | fail) only [go_sem, eq_true c1, decide_true]))
      all_goals (try omega)
    · have c2 : i ≥ t.nodes.length := by omega
      (repeat' (first | refine Nx.go ?_ | fail) <;> try (simp (disch := first | exact dq | fail) only [go_sem, eq_false c1, eq_true c2, decide_true, decide_false]))
      all_goals (try omega)
theorem Parent15_spec (t : Tr) (i : Int) (hl : t.nodes.length ≤ 1000000) : PCalls Try.prog 27 [trV t, .int .i64 i] (.int .i64 (parF t i)) := by
  unfold trV
  by_cases h : 0 ≤ i ∧ i < t.nodes.length
  · obtain ⟨k, rfl⟩ : ∃ k : Nat, i = k := ⟨i.toNat, by omega⟩
    have hk : k < t.nodes.length := by omega
    have hg := getNd hk
    have hp := parF_in hk
    have he := ndV_e (t.at k)
    have c1 : ((k : Int) < 0) = False := eq_false (by omega)
    have c2 : ((k : Int) ≥ t.nodes.length) = False := eq_false (by omega)
    rw [hp]
    generalize t.at k = x at *
    by_cases c3 : x.par < 0
    · rw [if_neg (by omega)]
      refine PCalls.of_aw Try.func27 rfl (by unfold Callable; kernel_rfl) (by kernel_rfl) (by simp [Try.ntmps27]) ?_; rw [Try.ntmps27, Try.results27]; (simp (disch := first | exact dq | fail) only [go_sem])
      (repeat' (with_reducible first | refine Nx.go ?_ | refine And.intro ?_ ?_ | fail) <;> try (simp (disch := first | exact dq | fail) only [go_sem, c1, c2, hg, he, eq_true c3, decide_true, decide_false]))
      all_goals (try omega)
    · by_cases c4 : x.par ≥ k
      · rw [if_neg (by omega)]
        refine PCalls.of_aw Try.func27 rfl (by unfold Callable; kernel_rfl) (by kernel_rfl) (by simp [Try.ntmps27]) ?_; rw [Try.ntmps27, Try.results27]; (simp (disch := first | exact dq | fail) only [go_sem])
        (repeat' (with_reducible first | refine Nx.go ?_ | refine And.intro ?_ ?_ | fail) <;> try (simp (disch := first | exact dq | fail) only [go_sem, c1, c2, hg, he, eq_false c3, eq_true c4, decide_true, decide_false]))
        all_goals (try omega)
      · rw [if_pos (by omega)]
        refine PCalls.of_aw Try.func27 rfl (by unfold Callable; kernel_rfl) (by kernel_rfl) (by simp [Try.ntmps27]) ?_; rw [Try.ntmps27, Try.results27]; (simp (disch := first | exact dq | fail) only [go_sem])
        (repeat' (with_reducible first | refine Nx.go ?_ | refine And.intro ?_ ?_ | fail) <;> try (simp (disch := first | exact dq | fail) only [go_sem, c1, c2, hg, he, eq_false c3, eq_false c4, decide_true, decide_false]))
        all_goals (try omega)
  · rw [parF_out h]
    refine PCalls.of_aw Try.func27 rfl (by unfold Callable; kernel_rfl) (by kernel_rfl) (by simp [Try.ntmps27]) ?_; rw [Try.ntmps27, Try.results27]; (simp (disch := first | exact dq | fail) only [go_sem])
    by_cases c1 : i < 0
    · (repeat' (first | refine Nx.go ?_ | fail) <;> try (simp (disch := first | exact dq | fail) only [go_sem, eq_true c1, decide_true]))
      all_goals (try omega)
    · have c2 : i ≥ t.nodes.length := by omega
      (repeat' (first | refine Nx.go ?_ | fail) <;> try (simp (disch := first | exact dq | fail) only [go_sem, eq_false c1, eq_true c2, decide_true, decide_false]))
      all_goals (try omega)
theorem Symbols15_spec (t : Tr) (hl : t.names.length ≤ 1000000) : PCalls Try.prog 26 [trV t] (.int .i64 (2 * t.names.length + 1)) := by
  unfold trV
  refine PCalls.of_aw Try.func26 rfl (by unfold Callable; kernel_rfl) (by kernel_rfl) (by simp [Try.ntmps26]) ?_; rw [Try.ntmps26, Try.results26]; (simp (disch := first | exact dq | fail) only [go_sem])
  (repeat' (first | refine Nx.go ?_ | fail) <;> try (simp (disch := first | exact dq | fail) only [go_sem]))
  all_goals (try omega)
theorem RefSymbol15_spec (t : Tr) (i : Int) (hl : t.nodes.length ≤ 1000000) (hn : t.names.length ≤ 1000000) : PCalls Try.prog 18 [trV t, .int .i64 i] (.int .i64 (symF t i)) := by
  unfold trV
  by_cases h : 0 ≤ i ∧ i < t.nodes.length
  · obtain ⟨k, rfl⟩ : ∃ k : Nat, i = k := ⟨i.toNat, by omega⟩
    have hk : k < t.nodes.length := by omega
    have hg := getNd hk
    have hp := symF_in hk
    have he := ndV_e (t.at k)
    have c1 : ((k : Int) < 0) = False := eq_false (by omega)
    have c2 : ((k : Int) ≥ t.nodes.length) = False := eq_false (by omega)
    rw [hp]
    generalize t.at k = x at *
    generalize hX : (if x.kind ≠ 1 ∧ x.kind ≠ 2 then (2 * t.names.length : Int) else _) = X
    have cs : ((x.kind = 1) = False ∧ (x.kind = 2) = False ∧ X = 2 * t.names.length) ∨ ((((x.kind = 1) = True ∧ bt [] 0 = 0) ∨ ((x.kind = 1) = False ∧ (x.kind = 2) = True)) ∧ ¬ (0 ≤ x.name ∧ x.name < t.names.length) ∧ X = -1)
        ∨ ((x.kind = 1) = True ∧ (x.kind = 2) = False ∧ (x.name < 0) = False ∧ (x.name ≥ t.names.length) = False ∧ X = 2 * x.name) ∨ ((x.kind = 1) = False ∧ (x.kind = 2) = True ∧ (x.name < 0) = False ∧ (x.name ≥ t.names.length) = False ∧ X = 2 * x.name + 1) := by
      subst hX
      by_cases k1 : x.kind = 1
      · have k2 : ¬ x.kind = 2 := by omega
        rw [if_neg (by omega), if_neg k2]
        by_cases k3 : 0 ≤ x.name ∧ x.name < t.names.length
        · exact .inr (.inr (.inl ⟨eq_true k1, eq_false k2, eq_false (by omega), eq_false (by omega), by rw [if_pos k3]⟩))
        · exact .inr (.inl ⟨.inl ⟨eq_true k1, rfl⟩, k3, by rw [if_neg k3]⟩)
      · by_cases k2 : x.kind = 2
        · rw [if_neg (by omega), if_pos k2]
          by_cases k3 : 0 ≤ x.name ∧ x.name < t.names.length
          · exact .inr (.inr (.inr ⟨eq_false k1, eq_true k2, eq_false (by omega), eq_false (by omega), by rw [if_pos k3]⟩))
          · exact .inr (.inl ⟨.inr ⟨eq_false k1, eq_true k2⟩, k3, by rw [if_neg k3]⟩)
        · exact .inl ⟨eq_false k1, eq_false k2, by rw [if_pos ⟨k1, k2⟩]⟩
    clear hX hp
    rcases cs with ⟨e1, e2, rfl⟩ | ⟨e1, e2, rfl⟩ | ⟨e1, e2, e3, e4, rfl⟩ | ⟨e1, e2, e3, e4, rfl⟩
    · refine PCalls.of_aw Try.func18 rfl (by unfold Callable; kernel_rfl) (by kernel_rfl) (by simp [Try.ntmps18]) ?_; rw [Try.ntmps18, Try.results18]; (simp (disch := first | exact dq | fail) only [go_sem])
      (repeat' (with_reducible first | refine Nx.go ?_ | refine And.intro ?_ ?_ | fail) <;> try (simp (disch := first | exact dq | fail) only [go_sem, c1, c2, hg, he, e1, e2, decide_true, decide_false]))
      all_goals (try omega)
    · by_cases c3 : x.name < 0
      · rcases e1 with ⟨e1, e5⟩ | ⟨e1, e5⟩
        all_goals (
          refine PCalls.of_aw Try.func18 rfl (by unfold Callable; kernel_rfl) (by kernel_rfl) (by simp [Try.ntmps18]) ?_; rw [Try.ntmps18, Try.results18]; (simp (disch := first | exact dq | fail) only [go_sem])
          (repeat' (with_reducible first | refine Nx.go ?_ | refine And.intro ?_ ?_ | fail) <;> try (simp (disch := first | exact dq | fail) only [go_sem, c1, c2, hg, he, e1, e5, eq_true c3, decide_true, decide_false]))
          all_goals (try omega))
      · have c4 : x.name ≥ t.names.length := by omega
        rcases e1 with ⟨e1, e5⟩ | ⟨e1, e5⟩
        all_goals (
          refine PCalls.of_aw Try.func18 rfl (by unfold Callable; kernel_rfl) (by kernel_rfl) (by simp [Try.ntmps18]) ?_; rw [Try.ntmps18, Try.results18]; (simp (disch := first | exact dq | fail) only [go_sem])
          (repeat' (with_reducible first | refine Nx.go ?_ | refine And.intro ?_ ?_ | fail) <;> try (simp (disch := first | exact dq | fail) only [go_sem, c1, c2, hg, he, e1, e5, eq_false c3, eq_true c4, decide_true, decide_false]))
          all_goals (try omega))
    · have b3 := of_eq_false e3
      have b4 := of_eq_false e4
      refine PCalls.of_aw Try.func18 rfl (by unfold Callable; kernel_rfl) (by kernel_rfl) (by simp [Try.ntmps18]) ?_; rw [Try.ntmps18, Try.results18]; (simp (disch := first | exact dq | fail) only [go_sem])
      (repeat' (with_reducible first | refine Nx.go ?_ | refine And.intro ?_ ?_ | fail) <;> try (simp (disch := first | exact dq | fail) only [go_sem, c1, c2, hg, he, e1, e2, e3, e4, decide_true, decide_false]))
      all_goals (try omega)
    · have b3 := of_eq_false e3
      have b4 := of_eq_false e4
      refine PCalls.of_aw Try.func18 rfl (by unfold Callable; kernel_rfl) (by kernel_rfl) (by simp [Try.ntmps18]) ?_; rw [Try.ntmps18, Try.results18]; (simp (disch := first | exact dq | fail) only [go_sem])
      (repeat' (with_reducible first | refine Nx.go ?_ | refine And.intro ?_ ?_ | fail) <;> try (simp (disch := first | exact dq | fail) only [go_sem, c1, c2, hg, he, e1, e2, e3, e4, decide_true, decide_false]))
      all_goals (try omega)
  · rw [symF_out h]
    refine PCalls.of_aw Try.func18 rfl (by unfold Callable; kernel_rfl) (by kernel_rfl) (by simp [Try.ntmps18]) ?_; rw [Try.ntmps18, Try.results18]; (simp (disch := first | exact dq | fail) only [go_sem])
    by_cases c1 : i < 0
    · (repeat' (first | refine Nx.go ?_ | fail) <;> try (simp (disch := first | exact dq | fail) only [go_sem, eq_true c1, decide_true]))
      all_goals (try omega)
    · have c2 : i ≥ t.nodes.length := by omega
      (repeat' (first | refine Nx.go ?_ | fail) <;> try (simp (disch := first | exact dq | fail) only [go_sem, eq_false c1, eq_true c2, decide_true, decide_false]))
      all_goals (try omega)
end Go.Proofs.Ytnijpeeehnnipaa.AM
namespace Go.Proofs.Ytnijpeeehnnipaa.AM
open Go Go.RowKit
def ancF (t : Tr) : Nat → Int → List Int
  | 0, _ => []
  | f + 1, i => if parF t i < 0 then [] else parF t i :: ancF t f (parF t i)
theorem ancF_more (t : Tr) : ∀ (f : Nat) (i : Int), i ≤ f → ancF t f i = ancF t (f + 1) i
  | 0, i, h => by
    rw [ancF, ancF, if_pos]
    rcases parF_cases t i with h1 | h1 <;> omega
  | f + 1, i, h => by
    rw [ancF]
    conv => rhs; rw [ancF]
    by_cases h1 : parF t i < 0
    · rw [if_pos h1, if_pos h1]
    · rw [if_neg h1, if_neg h1, ancF_more t f (parF t i) (by rcases parF_cases t i with h2 | h2 <;> omega)]
def ancT (t : Tr) (i : Int) : List Int := ancF t t.len i
theorem ancT_step (t : Tr) (i : Int) : ancT t i = if parF t i < 0 then [] else parF t i :: ancT t (parF t i) := by
  unfold ancT
  by_cases h1 : parF t i < 0
  · rw [if_pos h1]
    cases t.len with
    | zero => rfl
    | succ n => rw [ancF, if_pos h1]
  · rw [if_neg h1]
    have h2 : 0 ≤ parF t i ∧ parF t i < i ∧ i < t.len := by rcases parF_cases t i with h2 | h2 <;> omega
    obtain ⟨n, hn⟩ : ∃ n, t.len = n + 1 := ⟨t.len - 1, by omega⟩
    rw [hn, ancF, if_neg h1, ← ancF_more t n _ (by omega)]
theorem ancF_len (t : Tr) : ∀ (f : Nat) (i : Int), (ancF t f i).length ≤ f
  | 0, i => Nat.le_refl _
  | f + 1, i => by
    rw [ancF]
    split
    · exact Nat.zero_le _
    · rw [List.length_cons]; exact Nat.succ_le_succ (ancF_len t f _)
theorem ancT_len (t : Tr) (i : Int) : (ancT t i).length ≤ t.len := ancF_len t _ i
theorem upF_anc (t : Tr) : ∀ (f : Nat) (i : Int), upF t f i = (ancF t f i).map (symF t)
  | 0, i => rfl
  | f + 1, i => by
    rw [upF, ancF]
    split
    · rfl
    · rw [upF_anc t f]; rfl
theorem upT_anc (t : Tr) (i : Int) : upT t i = (ancT t i).map (symF t) := upF_anc t _ i
theorem upT_len (t : Tr) (i : Int) : (upT t i).length ≤ t.len := by rw [upT_anc, List.length_map]; exact ancT_len t i
def chN (t : Tr) (i : Int) (m : Nat) : List Int := (idL m).filter (fun k => decide (parF t k = i))
def chT (t : Tr) (i : Int) : List Int := if 0 ≤ i then chN t i t.len else []
theorem idL_succ (m : Nat) : idL (m + 1) = idL m ++ [(m : Int)] := by unfold idL; rw [List.range_succ, List.map_append]; rfl
theorem chN_succ (t : Tr) (i : Int) (m : Nat) : chN t i (m + 1) = if parF t m = i then chN t i m ++ [(m : Int)] else chN t i m := by
  unfold chN
  rw [idL_succ, List.filter_append]
  by_cases h : parF t m = i
  · rw [if_pos h]; simp [h]
  · rw [if_neg h]; simp [h]
theorem chN_len (t : Tr) (i : Int) (m : Nat) : (chN t i m).length ≤ m := by
  have := List.length_filter_le (fun k => decide (parF t k = i)) (idL m)
  have h : (idL m).length = m := by simp [idL]
  unfold chN; omega
theorem chT_len (t : Tr) (i : Int) : (chT t i).length ≤ t.len := by
  unfold chT
  split
  · exact chN_len t i _
  · exact Nat.zero_le _
theorem RefChildren15_spec (t : Tr) (i : Int) (hl : t.nodes.length ≤ 1000000) : PCalls Try.prog 17 [trV t, .int .i64 i] (inl (chT t i)) := by
  have hP := fun k => RefParent15_spec t k hl
  have hC : chT t i = if 0 ≤ i then chN t i t.nodes.length else [] := rfl
  by_cases h0 : 0 ≤ i
  · have c0 : (i ≥ 0) = True := eq_true h0
    rw [hC, if_pos h0]
    unfold trV at *
    refine PCalls.of_aw Try.func17 rfl (by unfold Callable; kernel_rfl) (by kernel_rfl) (by simp [Try.ntmps17]) ?_; rw [Try.ntmps17, Try.results17]; (simp (disch := first | exact dq | fail) only [go_sem])
    (repeat' (first | refine Nx.go ?_ | fail) <;> try (simp (disch := first | exact dq | fail) only [go_sem]))
    refine aw_loop (α := Nat) (fun m => ⟨28, sl [(1, .iv (.int .i64 i)), (2, .mp 0 0), (5, .msl 1 0 (chN t i m).length (chN t i m).length), (6, .iv (.int .i64 m))], [.var 25 [.iv (.sl 1 (t.names.map fun s => IV.str (bs s))), .iv (.sl 4 (t.nodes.map ndV))], .row true 3 1 ((chN t i m).map (IV.int .i64))], 0⟩)
      (fun m => m ≤ t.nodes.length) (fun m => t.nodes.length - m) 0 (wk_by [0, 2] ?_) (by omega) ?_
    · (simp (disch := first | exact dq | fail) only [go_sem])
      try exact ⟨rfl, rfl⟩
    rintro m hm
    have hcl := chN_len t i m
    by_cases g : m < t.nodes.length
    · have g1 : (m : Int) < t.nodes.length := by omega
      have hs := chN_succ t i m
      have hPm := hP m
      generalize chN t i m = out at *
      by_cases e : parF t m = i
      · rw [if_pos e] at hs
        (repeat' (first | refine Nx.go ?_ | fail) <;> try (simp (disch := first | exact dq | fail) only [go_sem, g1, c0, decide_true]))
        all_goals (try omega)
        ((with_reducible first | apply left_callf | apply leftD_callf | apply leftF_callf); (· with_reducible rfl); (· (simp (disch := first | exact dq | fail) only [go_sem]) <;> rfl); (· exact hPm); try (simp (disch := first | exact dq | fail) only [go_sem]))
        (repeat' (with_reducible first | refine Nx.go ?_ | refine And.intro ?_ ?_ | fail) <;> try (simp (disch := first | exact dq | fail) only [go_sem, e, decide_true]))
        all_goals (try omega)
        refine ⟨m + 1, by omega, wk_by [0, 1] ?_, by omega⟩
        (simp (disch := first | exact dq | fail) only [go_sem, hs, List.map_append])
        try rfl
      · rw [if_neg e] at hs
        have e' := eq_false e
        (repeat' (first | refine Nx.go ?_ | fail) <;> try (simp (disch := first | exact dq | fail) only [go_sem, g1, c0, decide_true]))
        all_goals (try omega)
        ((with_reducible first | apply left_callf | apply leftD_callf | apply leftF_callf); (· with_reducible rfl); (· (simp (disch := first | exact dq | fail) only [go_sem]) <;> rfl); (· exact hPm); try (simp (disch := first | exact dq | fail) only [go_sem]))
        (repeat' (first | refine Nx.go ?_ | fail) <;> try (simp (disch := first | exact dq | fail) only [go_sem, e', decide_false]))
        all_goals (try omega)
        refine ⟨m + 1, by omega, wk_by [0, 1] ?_, by omega⟩
        (simp (disch := first | exact dq | fail) only [go_sem, hs])
        try rfl
    · obtain rfl : m = t.nodes.length := by omega
      have g1 : ¬ (t.nodes.length : Int) < t.nodes.length := by omega
      (repeat' (first | refine Nx.go ?_ | fail) <;> try (simp (disch := first | exact dq | fail) only [go_sem, g1, decide_false]))
      all_goals (try omega)
  · have c0 : (i ≥ 0) = False := eq_false h0
    rw [hC, if_neg h0]
    unfold trV at *
    refine PCalls.of_aw Try.func17 rfl (by unfold Callable; kernel_rfl) (by kernel_rfl) (by simp [Try.ntmps17]) ?_; rw [Try.ntmps17, Try.results17]; (simp (disch := first | exact dq | fail) only [go_sem])
    (repeat' (first | refine Nx.go ?_ | fail) <;> try (simp (disch := first | exact dq | fail) only [go_sem]))
    refine aw_loop (α := Nat) (fun m => ⟨28, sl [(1, .iv (.int .i64 i)), (2, .mp 0 0), (5, .msl 1 0 0 0), (6, .iv (.int .i64 m))], [.var 25 [.iv (.sl 1 (t.names.map fun s => IV.str (bs s))), .iv (.sl 4 (t.nodes.map ndV))], .row true 3 1 []], 0⟩)
      (fun m => m ≤ t.nodes.length) (fun m => t.nodes.length - m) 0 (wk_by [0, 2] ?_) (by omega) ?_
    · (simp (disch := first | exact dq | fail) only [go_sem])
      try exact ⟨rfl, rfl⟩
    rintro m hm
    by_cases g : m < t.nodes.length
    · have g1 : (m : Int) < t.nodes.length := by omega
      (repeat' (first | refine Nx.go ?_ | fail) <;> try (simp (disch := first | exact dq | fail) only [go_sem, g1, c0, decide_true, decide_false]))
      all_goals (try omega)
      refine ⟨m + 1, by omega, wk_by [0, 1] ?_, by omega⟩
      (simp (disch := first | exact dq | fail) only [go_sem])
      try rfl
    · obtain rfl : m = t.nodes.length := by omega
      have g1 : ¬ (t.nodes.length : Int) < t.nodes.length := by omega
      (repeat' (first | refine Nx.go ?_ | fail) <;> try (simp (disch := first | exact dq | fail) only [go_sem, g1, decide_false]))
      all_goals (try omega)
theorem RefUp15_spec (t : Tr) (i : Int) (hl : t.nodes.length ≤ 1000000) (hn : t.names.length ≤ 1000000) : PCalls Try.prog 20 [trV t, .int .i64 i] (inl (upT t i)) := by
  have hP := fun k => RefParent15_spec t k hl
  have hS := fun k => RefSymbol15_spec t k hl hn
  have hU := upT_len t i
  unfold Tr.len at hU
  unfold trV at *
  refine PCalls.of_aw Try.func20 rfl (by unfold Callable; kernel_rfl) (by kernel_rfl) (by simp [Try.ntmps20]) ?_; rw [Try.ntmps20, Try.results20]; (simp (disch := first | exact dq | fail) only [go_sem])
  (repeat' (first | refine Nx.go ?_ | fail) <;> try (simp (disch := first | exact dq | fail) only [go_sem]))
  ((with_reducible first | apply left_callf | apply leftD_callf | apply leftF_callf); (· with_reducible rfl); (· (simp (disch := first | exact dq | fail) only [go_sem]) <;> rfl); (· exact hP i); try (simp (disch := first | exact dq | fail) only [go_sem]))
  (repeat' (first | refine Nx.go ?_ | fail) <;> try (simp (disch := first | exact dq | fail) only [go_sem]))
  refine aw_loop (α := Int × List Int) (fun z => ⟨22, sl [(2, .mp 0 0), (5, .msl 1 0 z.2.length z.2.length), (6, .iv (.int .i64 z.1))], [.var 25 [.iv (.sl 1 (t.names.map fun s => IV.str (bs s))), .iv (.sl 4 (t.nodes.map ndV))], .row true 3 1 (z.2.map (IV.int .i64))], 0⟩)
    (fun z => z.2 ++ (if z.1 < 0 then [] else symF t z.1 :: upT t z.1) = upT t i) (fun z => (z.1 + 1).toNat) (parF t i, []) (wk_by [0, 2] ?_) (by dsimp only; rw [List.nil_append, ← upT_step]) ?_
  · (simp (disch := first | exact dq | fail) only [go_sem])
    try exact ⟨rfl, rfl⟩
  rintro ⟨p, out⟩ hz
  dsimp only at hz
  have ho : out.length ≤ t.nodes.length := by rw [← hz, List.length_append] at hU; omega
  by_cases g : p < 0
  · rw [if_pos g, List.append_nil] at hz
    subst hz
    have g1 : (p ≥ 0) = False := eq_false (by omega)
    (repeat' (first | refine Nx.go ?_ | fail) <;> try (simp (disch := first | exact dq | fail) only [go_sem, g1, decide_false]))
    all_goals (try omega)
  · rw [if_neg g, upT_step] at hz
    have g1 : (p ≥ 0) = True := eq_true (by omega)
    have hp := parF_cases t p
    (repeat' (first | refine Nx.go ?_ | fail) <;> try (simp (disch := first | exact dq | fail) only [go_sem, g1, decide_true]))
    all_goals (try omega)
    ((with_reducible first | apply left_callf | apply leftD_callf | apply leftF_callf); (· with_reducible rfl); (· (simp (disch := first | exact dq | fail) only [go_sem]) <;> rfl); (· exact hS p); try (simp (disch := first | exact dq | fail) only [go_sem]))
    (repeat' (with_reducible first | refine Nx.go ?_ | refine And.intro ?_ ?_ | fail) <;> try (simp (disch := first | exact dq | fail) only [go_sem]))
    all_goals (try omega)
    ((with_reducible first | apply left_callf | apply leftD_callf | apply leftF_callf); (· with_reducible rfl); (· (simp (disch := first | exact dq | fail) only [go_sem]) <;> rfl); (· exact hP p); try (simp (disch := first | exact dq | fail) only [go_sem]))
    (repeat' (first | refine Nx.go ?_ | fail) <;> try (simp (disch := first | exact dq | fail) only [go_sem]))
    all_goals (try omega)
    refine ⟨(parF t p, out ++ [symF t p]), by dsimp only; rw [List.append_assoc]; exact hz, wk_by [0, 1] ?_, by dsimp only; omega⟩
    (simp (disch := first | exact dq | fail) only [go_sem, List.map_append])
    try rfl
end Go.Proofs.Ytnijpeeehnnipaa.AM
