
/- Chapter 5: symbols, the counts of the laws, the examples. No condition. -/
import Derived.Test.YtpjncojljamacaaGreatZS
set_option linter.unusedVariables false
set_option linter.unusedSimpArgs false
set_option maxRecDepth 20000
namespace Go.Proofs.YtpjncojljamacaaGreat.AM
open Go Go.RowKit

def syI5 (s n : Int) : Int := if n.tmod s < 0 then -(n.tmod s) else n.tmod s
def sys5 (s : Int) (l : List Int) : List Int := (l.take 80).map (syI5 s)
theorem sys5_len (s : Int) (l : List Int) : (sys5 s l).length = min 80 l.length := by unfold sys5; rw [List.length_map, List.length_take]
theorem sys5_at (s : Int) (l : List Int) {i : Nat} (h : i < (sys5 s l).length) : (sys5 s l).getD i 0 = syI5 s (l.getD i 0) := by
  rw [sys5_len] at h
  unfold sys5
  simp [List.getD, List.getElem?_take, show i < 80 by omega, List.getElem?_eq_getElem (show i < l.length by omega)]
theorem symbols5_spec (l : List Int) (n : Int) : PCalls Tryz.prog 7 [inl l, .int .i64 n] (.tup [inl (sys5 (1 + n % 32) l), .int .i64 (1 + n % 32)]) := by
  have em : bitI .and .i64 n 31 = n % 32 := and_maskS n 32 5 (by decide) rfl
  obtain ⟨s, hs⟩ : ∃ s, s = 1 + n % 32 := ⟨_, rfl⟩
  have hs0 : 0 < s ∧ s ≤ 32 := by omega
  rw [← hs]
  have hml := sys5_len s l
  have hma := fun i => @sys5_at s l i
  have hlt := fun x => Int.lt_tmod_of_pos x hs0.1
  have hgt := fun x => Int.tmod_lt_of_pos x hs0.1
  generalize sys5 s l = m at *
  refine PCalls.of_aw Tryz.func7 rfl (by unfold Callable; kernel_rfl) (by kernel_rfl) (by simp [Tryz.ntmps7]) ?_; rw [Tryz.ntmps7, Tryz.results7]; (simp (disch := first | exact dq | fail) only [go_sem])
  (repeat' first
  | ((with_reducible first | refine Nx.go ?_ | refine rP ?_ | refine rR ?_ | refine And.intro ?_ ?_ | fail) <;> try (simp (disch := first | exact dq | fail) only [go_sem, em]))
  | ((with_reducible refine Sp.go ?_ ?_) <;> intro h <;> (try (simp (disch := first | exact dq | fail) only [go_sem] at h)) <;> try (simp (disch := first | exact dq | fail) only [go_sem, h, em])) | fail)
  simp only [← hs]
  refine aw_loop (α := Nat) (fun i => ⟨39, sl [(0, .iv (inl l)), (6, .iv (.int .i64 s)), (7, .msl 0 0 i i), (8, .iv (.int .i64 i))], [.row true 3 1 ((m.take i).map (IV.int .i64))], 0⟩)
    (fun i => i ≤ m.length) (fun i => m.length - i) 0 (wk_by [1] ?_) (by omega) ?_
  · (simp (disch := first | exact dq | fail) only [go_sem])
  rintro i hi
  have htl : (m.take i).length = i := by rw [List.length_take]; omega
  by_cases h : i < m.length
  · have c1 : (i : Int) < l.length := by omega
    have c2 : (i : Int) < 80 := by omega
    have ht := take_snoc m h
    have hx := hma i h
    have h1 := hlt (l.getD i 0)
    have h2 := hgt (l.getD i 0)
    have hw : IntKind.i64.wrap ((l.getD i 0).tmod s) = (l.getD i 0).tmod s := wrapS ⟨by omega, by omega⟩
    have hw2 : IntKind.i64.wrap (-((l.getD i 0).tmod s)) = -((l.getD i 0).tmod s) := wrapS ⟨by omega, by omega⟩
    unfold syI5 at hx
    by_cases g : (l.getD i 0).tmod s < 0
    · rw [if_pos g] at hx
      rw [hx] at ht
      (repeat' first
  | ((with_reducible first | refine Nx.go ?_ | refine rP ?_ | refine rR ?_ | refine And.intro ?_ ?_ | fail) <;> try (simp (disch := first | exact dq | fail) only [go_sem, htl, hw, hw2, c1, c2, g, decide_true]))
  | ((with_reducible refine Sp.go ?_ ?_) <;> intro h <;> (try (simp (disch := first | exact dq | fail) only [go_sem] at h)) <;> try (simp (disch := first | exact dq | fail) only [go_sem, h, htl, hw, hw2, c1, c2, g, decide_true])) | fail)
      all_goals (try omega)
      refine ⟨i + 1, by omega, wk_by [0] ?_, by omega⟩
      (simp (disch := first | exact dq | fail) only [go_sem, ht, List.map_append, Int.zero_sub])
    · rw [if_neg g] at hx
      rw [hx] at ht
      (repeat' first
  | ((with_reducible first | refine Nx.go ?_ | refine rP ?_ | refine rR ?_ | refine And.intro ?_ ?_ | fail) <;> try (simp (disch := first | exact dq | fail) only [go_sem, htl, hw, c1, c2, g, decide_true, decide_false]))
  | ((with_reducible refine Sp.go ?_ ?_) <;> intro h <;> (try (simp (disch := first | exact dq | fail) only [go_sem] at h)) <;> try (simp (disch := first | exact dq | fail) only [go_sem, h, htl, hw, c1, c2, g, decide_true, decide_false])) | fail)
      all_goals (try omega)
      refine ⟨i + 1, by omega, wk_by [0] ?_, by omega⟩
      (simp (disch := first | exact dq | fail) only [go_sem, ht, List.map_append])
  · have e : m.take i = m := List.take_of_length_le (by omega)
    obtain rfl : i = m.length := by omega
    rw [e]
    by_cases c1 : m.length < l.length
    · have c1' : (m.length : Int) < l.length := by omega
      have c2 : ¬ ((m.length : Int) < 80) := by omega
      (repeat' first
  | ((with_reducible first | refine Nx.go ?_ | refine rP ?_ | refine rR ?_ | refine And.intro ?_ ?_ | fail) <;> try (simp (disch := first | exact dq | fail) only [go_sem, c1', c2, decide_true, decide_false]))
  | ((with_reducible refine Sp.go ?_ ?_) <;> intro h <;> (try (simp (disch := first | exact dq | fail) only [go_sem] at h)) <;> try (simp (disch := first | exact dq | fail) only [go_sem, h, c1', c2, decide_true, decide_false])) | fail)
      all_goals (try omega)
      all_goals (try (rw [List.take_of_length_le (by simp)]))
    · have c1' : ¬ ((m.length : Int) < l.length) := by omega
      (repeat' first
  | ((with_reducible first | refine Nx.go ?_ | refine rP ?_ | refine rR ?_ | refine And.intro ?_ ?_ | fail) <;> try (simp (disch := first | exact dq | fail) only [go_sem, c1', decide_false]))
  | ((with_reducible refine Sp.go ?_ ?_) <;> intro h <;> (try (simp (disch := first | exact dq | fail) only [go_sem] at h)) <;> try (simp (disch := first | exact dq | fail) only [go_sem, h, c1', decide_false])) | fail)
      all_goals (try omega)
      all_goals (try (rw [List.take_of_length_le (by simp)]))

theorem left_callRw {P : Program} {ops : List Oper} {Q : St → Prop} {s : St} {o : Oper} {rest : List Oper} {f : Nat} {xs : List AV} {Ml : List MO} {R : AV → List MO → Prop} (s1 : St) (l : List Nat) (h : RCalls P f xs Ml R) (hw : Wk s s1) (hc : callMK o l f xs Ml s1)
    (hk : ∀ r M', R r M' → run P ops rest (fun s l => left P ops Q s l) ({ s1 with M := backM s1.M l M' }.put o.dst (ren (sg l s1.M.length) r))) : left P ops Q s (o :: rest) := by
  unfold callMK at hc
  split at hc
  · rename_i c ho
    split at hc
    · rename_i x hx
      split at hc
      · rename_i g caps hg
        obtain ⟨rfl, h1, h2, h3⟩ := hc
        exact left_callR l hw h ho hx hg h1 (Part.ofR h2 h3) hk
      · exact hc.elim
    · exact hc.elim
  · exact hc.elim
theorem kd_ex : kdsL [5, 1, 1] = [[false], [true, false], [true, true]] := by decide
theorem cost_ex : costL (cdF (cnt5 [0, 0, 1, 2] 3)) [0, 0, 1, 2] = 6 := by decide
set_option maxHeartbeats 1000000 in
theorem awake5_spec : PCalls Tryz.prog 6 [] (.bool true) := by
  have hC := Codes_spec [5, 1, 1] (by decide)
  rw [kd_ex] at hC
  obtain ⟨L, hL⟩ : ∃ L : List Int, L = [0, 0, 1, 2] := ⟨_, rfl⟩
  have hl4 : L.length = 4 := by rw [hL]; rfl
  have hrng : ∀ x ∈ L, 0 ≤ x ∧ x < (3 : Nat) := by rw [hL]; decide
  have hN := New_ok L 3 (by omega) (by decide) (by decide) hrng
  have hK := fun rk h => Cost5_spec (l := L) (size := 3) (rk := rk) ⟨by omega, by decide, by decide, hrng, h⟩
  have hce : costL (cdF (cnt5 L 3)) L = 6 := by rw [hL]; exact cost_ex
  rw [hce] at hK
  have hin : inl L = .sl 1 [.int .i64 0, .int .i64 0, .int .i64 1, .int .i64 2] := by rw [hL]; rfl
  rw [hin] at hN
  clear hL hin
  have n6 : ((6 : Nat) : Int) = 6 := rfl
  rw [n6] at hK
  unfold inl cdV strR at hC
  simp only [List.map_cons, List.map_nil] at hC
  have d1 : cdB [false] = [48] := rfl
  have d2 : cdB [true, false] = [49, 48] := rfl
  have d3 : cdB [true, true] = [49, 49] := rfl
  rw [d1, d2, d3] at hC
  refine PCalls.of_aw Tryz.func6 rfl (by unfold Callable; kernel_rfl) (by kernel_rfl) (by simp [Tryz.ntmps6]) ?_; rw [Tryz.ntmps6, Tryz.results6]; (simp (maxSteps := 1000000) (disch := first | exact dq | fail) only [go_sem])
  (repeat' first
  | ((with_reducible first | refine Nx.go ?_ | refine rP ?_ | refine rR ?_ | refine And.intro ?_ ?_ | fail) <;> try (simp (maxSteps := 1000000) (disch := first | exact dq | fail) only [go_sem]))
  | ((with_reducible refine Sp.go ?_ ?_) <;> intro h <;> (try (simp (maxSteps := 1000000) (disch := first | exact dq | fail) only [go_sem] at h)) <;> try (simp (maxSteps := 1000000) (disch := first | exact dq | fail) only [go_sem, h])) | fail)
  ((with_reducible apply left_callfF); (· with_reducible rfl); (· (simp (maxSteps := 1000000) (disch := first | exact dq | fail) only [go_sem]) <;> rfl); (· exact hC); try (simp (maxSteps := 1000000) (disch := first | exact dq | fail) only [go_sem]))
  (repeat' first
  | ((with_reducible first | refine Nx.go ?_ | refine rP ?_ | refine rR ?_ | refine And.intro ?_ ?_ | fail) <;> try (simp (maxSteps := 1000000) (disch := first | exact dq | fail) only [go_sem]))
  | ((with_reducible refine Sp.go ?_ ?_) <;> intro h <;> (try (simp (maxSteps := 1000000) (disch := first | exact dq | fail) only [go_sem] at h)) <;> try (simp (maxSteps := 1000000) (disch := first | exact dq | fail) only [go_sem, h])) | fail)
  refine left_callRw ⟨41, sl [(1, .iv (.sl 1 [.str (bs [48]), .str (bs [49, 48]), .str (bs [49, 49])])), (7, .iv (.sl 1 [.int .i64 0, .int .i64 0, .int .i64 1, .int .i64 2]))], [], 0⟩ [] hN ((wk_frz (i := 7) (y := .sl 1 [.int .i64 0, .int .i64 0, .int .i64 1, .int .i64 2]) (M' := [.row false 3 1 [.int .i64 5, .int .i64 1, .int .i64 1], .row false 3 1 [.int .i64 0, .int .i64 0, .int .i64 1, .int .i64 2]]) ?_).trans (wk_by [] ?_)) ?_ ?_
  · (simp (maxSteps := 1000000) (disch := first | exact dq | fail) only [go_sem])
  · (simp (maxSteps := 1000000) (disch := first | exact dq | fail) only [go_sem])
  · (simp (maxSteps := 1000000) (disch := first | exact dq | fail) only [go_sem])
    try exact ⟨rfl, rfl⟩
  rintro r M' ⟨rk, rfl, rfl, hrk⟩
  have hKr := hK rk hrk
  have n3 : ((3 : Nat) : Int) = 3 := rfl
  unfold shV cdV at hKr ⊢
  rw [n3] at hKr
  (simp (maxSteps := 1000000) (disch := first | exact dq | fail) only [go_sem])
  (repeat' first
  | ((with_reducible first | refine Nx.go ?_ | refine rP ?_ | refine rR ?_ | refine And.intro ?_ ?_ | fail) <;> try (simp (maxSteps := 1000000) (disch := first | exact dq | fail) only [go_sem]))
  | ((with_reducible refine Sp.go ?_ ?_) <;> intro h <;> (try (simp (maxSteps := 1000000) (disch := first | exact dq | fail) only [go_sem] at h)) <;> try (simp (maxSteps := 1000000) (disch := first | exact dq | fail) only [go_sem, h])) | fail)
  ((with_reducible first | apply left_callf | apply leftD_callf | apply leftF_callf); (· with_reducible rfl); (· (simp (maxSteps := 1000000) (disch := first | exact dq | fail) only [go_sem]) <;> rfl); (· exact hKr); try (simp (maxSteps := 1000000) (disch := first | exact dq | fail) only [go_sem]))
  (repeat' first
  | ((with_reducible first | refine Nx.go ?_ | refine rP ?_ | refine rR ?_ | refine And.intro ?_ ?_ | fail) <;> try (simp (maxSteps := 1000000) (disch := first | exact dq | fail) only [go_sem]))
  | ((with_reducible refine Sp.go ?_ ?_) <;> intro h <;> (try (simp (maxSteps := 1000000) (disch := first | exact dq | fail) only [go_sem] at h)) <;> try (simp (maxSteps := 1000000) (disch := first | exact dq | fail) only [go_sem, h])) | fail)

end Go.Proofs.YtpjncojljamacaaGreat.AM
