
/- Chapter 5: the law ShapedTurns. Any numbers. -/
import Derived.Test.YtpjncojljamacaaGreatZW
set_option linter.unusedVariables false
set_option linter.unusedSimpArgs false
set_option maxRecDepth 20000
namespace Go.Proofs.YtpjncojljamacaaGreat.AM
open Go Go.RowKit

theorem rk5_at (l : List Int) (c : Int) (q : Nat) (h : q ≤ l.length) : rk5 l c (q : Int) = cP (fun x => decide (x = c)) l q := by
  unfold rk5
  congr 1
  omega
theorem cut_nat {s x : Int} (hs : 0 < s) : ∃ c : Nat, (x.tmod s + s) % s = (c : Int) ∧ (c : Int) < s ∧ -s < x.tmod s ∧ x.tmod s < s := by
  have h1 := Int.lt_tmod_of_pos x hs
  have h2 := Int.tmod_lt_of_pos x hs
  have h3 := Int.emod_nonneg (x.tmod s + s) (by omega : s ≠ 0)
  have h4 := Int.emod_lt_of_pos (x.tmod s + s) hs
  exact ⟨((x.tmod s + s) % s).toNat, by omega, by omega, h1, h2⟩
set_option maxHeartbeats 4000000 in
theorem ShapedTurns_spec (l : List Int) (sz x y : Int) : PCalls Tryz.prog 3 [inl l, .int .i64 sz, .agg [.int .i64 x, .int .i64 y]] (.bool true) := by
  have hY := symbols5_spec l sz
  have hrng := sys5_ok (show (0 : Int) < 1 + sz % 32 by omega) l
  have hml := sys5_len (1 + sz % 32) l
  obtain ⟨S, hS⟩ : ∃ S : Nat, 1 + sz % 32 = (S : Int) := ⟨(1 + sz % 32).toNat, by omega⟩
  rw [hS] at hY hrng hml
  generalize sys5 (S : Int) l = m at *
  have hS1 : 1 ≤ S ∧ S ≤ 32 := by omega
  have hN := New_ok m S (by omega) (by omega) (by omega) hrng
  obtain ⟨c, hcw, hcS, hx1, hx2⟩ := cut_nat (x := x) (show (0 : Int) < S by omega)
  have hAm : cP (fun x => decide (x = (c : Int))) m m.length ≤ m.length := cP_le _ _ _
  refine PCalls.of_aw Tryz.func3 rfl (by unfold Callable; kernel_rfl) (by kernel_rfl) (by simp [Tryz.ntmps3]) ?_; rw [Tryz.ntmps3, Tryz.results3]; (simp (maxSteps := 1000000) (disch := first | exact dq | fail) only [go_sem])
  (repeat' first
  | ((with_reducible first | refine Nx.go ?_ | refine rP ?_ | refine rR ?_ | refine And.intro ?_ ?_ | fail) <;> try (simp (maxSteps := 1000000) (disch := first | exact dq | fail) only [go_sem]))
  | ((with_reducible refine Sp.go ?_ ?_) <;> intro h <;> (try (simp (maxSteps := 1000000) (disch := first | exact dq | fail) only [go_sem] at h)) <;> try (simp (maxSteps := 1000000) (disch := first | exact dq | fail) only [go_sem, h])) | fail)
  ((with_reducible first | apply left_callf | apply leftD_callf | apply leftF_callf); (· with_reducible rfl); (· (simp (maxSteps := 1000000) (disch := first | exact dq | fail) only [go_sem]) <;> rfl); (· exact awake5_spec); try (simp (maxSteps := 1000000) (disch := first | exact dq | fail) only [go_sem]))
  (repeat' first
  | ((with_reducible first | refine Nx.go ?_ | refine rP ?_ | refine rR ?_ | refine And.intro ?_ ?_ | fail) <;> try (simp (maxSteps := 1000000) (disch := first | exact dq | fail) only [go_sem]))
  | ((with_reducible refine Sp.go ?_ ?_) <;> intro h <;> (try (simp (maxSteps := 1000000) (disch := first | exact dq | fail) only [go_sem] at h)) <;> try (simp (maxSteps := 1000000) (disch := first | exact dq | fail) only [go_sem, h])) | fail)
  ((with_reducible first | apply left_callf | apply leftD_callf | apply leftF_callf); (· with_reducible rfl); (· (simp (maxSteps := 1000000) (disch := first | exact dq | fail) only [go_sem]) <;> rfl); (· exact hY); try (simp (maxSteps := 1000000) (disch := first | exact dq | fail) only [go_sem]))
  (repeat' first
  | ((with_reducible first | refine Nx.go ?_ | refine rP ?_ | refine rR ?_ | refine And.intro ?_ ?_ | fail) <;> try (simp (maxSteps := 1000000) (disch := first | exact dq | fail) only [go_sem]))
  | ((with_reducible refine Sp.go ?_ ?_) <;> intro h <;> (try (simp (maxSteps := 1000000) (disch := first | exact dq | fail) only [go_sem] at h)) <;> try (simp (maxSteps := 1000000) (disch := first | exact dq | fail) only [go_sem, h])) | fail)
  ((with_reducible refine left_callRs [] (hN) ?_ ?_); (· (simp (maxSteps := 1000000) (disch := first | exact dq | fail) only [go_sem])))
  rintro r M' ⟨rk, rfl, rfl, hrk⟩
  have h5 : Shp5 m S rk := ⟨by omega, by omega, by omega, hrng, hrk⟩
  have hRl := Rank5_spec h5 c m.length
  rw [rk5_all] at hRl
  have hSo := Sel5_out h5 c (cP (fun x => decide (x = (c : Int))) m m.length : Nat) (.inr (Int.le_refl _))
  have hRk := fun (q : Nat) (h : q ≤ m.length) => Rank5_spec h5 c q
  have hSi := fun (q : Nat) (hq : q < m.length) (hqc : m.getD q 0 = c) => Sel5_in h5 c q hq hqc
  have hAt := fun (q : Nat) => At5_spec h5 q
  unfold shV cdV at *
  (simp (maxSteps := 1000000) (disch := first | exact dq | fail) only [go_sem])
  (repeat' first
  | ((with_reducible first | refine Nx.go ?_ | refine rP ?_ | refine rR ?_ | refine And.intro ?_ ?_ | fail) <;> try (simp (maxSteps := 1000000) (disch := first | exact dq | fail) only [go_sem, hcw]))
  | ((with_reducible refine Sp.go ?_ ?_) <;> intro h <;> (try (simp (maxSteps := 1000000) (disch := first | exact dq | fail) only [go_sem] at h)) <;> try (simp (maxSteps := 1000000) (disch := first | exact dq | fail) only [go_sem, h, hcw])) | fail)
  all_goals (try omega)
  ((with_reducible first | apply left_callf | apply leftD_callf | apply leftF_callf); (· with_reducible rfl); (· (simp (maxSteps := 1000000) (disch := first | exact dq | fail) only [go_sem]) <;> rfl); (· exact hRl); try (simp (maxSteps := 1000000) (disch := first | exact dq | fail) only [go_sem]))
  have hhit := fun k => @cP_hit (fun x => decide (x = (c : Int))) m k m.length (Nat.le_refl _)
  by_cases hA0 : cP (fun x => decide (x = (c : Int))) m m.length = 0
  · have b0 : ((cP (fun x => decide (x = (c : Int))) m m.length : Int) = 0) = True := eq_true (by omega)
    (repeat' first
  | ((with_reducible first | refine Nx.go ?_ | refine rP ?_ | refine rR ?_ | refine And.intro ?_ ?_ | fail) <;> try (simp (maxSteps := 1000000) (disch := first | exact dq | fail) only [go_sem]))
  | ((with_reducible refine Sp.go ?_ ?_) <;> intro h <;> (try (simp (maxSteps := 1000000) (disch := first | exact dq | fail) only [go_sem] at h)) <;> try (simp (maxSteps := 1000000) (disch := first | exact dq | fail) only [go_sem, h])) | fail)
    ((with_reducible first | apply left_callf | apply leftD_callf | apply leftF_callf); (· with_reducible rfl); (· (simp (maxSteps := 1000000) (disch := first | exact dq | fail) only [go_sem]) <;> rfl); (· exact hSo); try (simp (maxSteps := 1000000) (disch := first | exact dq | fail) only [go_sem]))
    (repeat' first
  | ((with_reducible first | refine Nx.go ?_ | refine rP ?_ | refine rR ?_ | refine And.intro ?_ ?_ | fail) <;> try (simp (maxSteps := 1000000) (disch := first | exact dq | fail) only [go_sem, b0, decide_true]))
  | ((with_reducible refine Sp.go ?_ ?_) <;> intro h <;> (try (simp (maxSteps := 1000000) (disch := first | exact dq | fail) only [go_sem] at h)) <;> try (simp (maxSteps := 1000000) (disch := first | exact dq | fail) only [go_sem, h, b0, decide_true])) | fail)
  · have b0 : ((cP (fun x => decide (x = (c : Int))) m m.length : Int) = 0) = False := eq_false (by omega)
    obtain ⟨k, hkw, hkA, hy1, hy2⟩ := cut_nat (x := y) (show (0 : Int) < (cP (fun x => decide (x = (c : Int))) m m.length : Int) by omega)
    obtain ⟨q, hq, hqc, hqk⟩ := hhit k (by omega)
    have hqc' : m.getD q 0 = c := of_decide_eq_true hqc
    have hS2 := hSi q hq hqc'
    have hR1 := hRk q (by omega)
    have hR2 := hRk (q + 1) (by omega)
    have hA2 := hAt q
    rw [rk5_at _ _ _ (by omega)] at hR1 hR2
    rw [cP_step, if_pos hqc] at hR2
    rw [hqk] at hS2 hR1 hR2
    have ha5 : at5 m (q : Int) = c := by unfold at5; rw [if_pos (by omega), Int.toNat_natCast]; exact hqc'
    rw [ha5] at hA2
    rw [Int.natCast_add, Int.natCast_add] at hR2
    (repeat' first
  | ((with_reducible first | refine Nx.go ?_ | refine rP ?_ | refine rR ?_ | refine And.intro ?_ ?_ | fail) <;> try (simp (maxSteps := 1000000) (disch := first | exact dq | fail) only [go_sem]))
  | ((with_reducible refine Sp.go ?_ ?_) <;> intro h <;> (try (simp (maxSteps := 1000000) (disch := first | exact dq | fail) only [go_sem] at h)) <;> try (simp (maxSteps := 1000000) (disch := first | exact dq | fail) only [go_sem, h])) | fail)
    ((with_reducible first | apply left_callf | apply leftD_callf | apply leftF_callf); (· with_reducible rfl); (· (simp (maxSteps := 1000000) (disch := first | exact dq | fail) only [go_sem]) <;> rfl); (· exact hSo); try (simp (maxSteps := 1000000) (disch := first | exact dq | fail) only [go_sem]))
    (repeat' first
  | ((with_reducible first | refine Nx.go ?_ | refine rP ?_ | refine rR ?_ | refine And.intro ?_ ?_ | fail) <;> try (simp (maxSteps := 1000000) (disch := first | exact dq | fail) only [go_sem, b0, decide_false, hkw]))
  | ((with_reducible refine Sp.go ?_ ?_) <;> intro h <;> (try (simp (maxSteps := 1000000) (disch := first | exact dq | fail) only [go_sem] at h)) <;> try (simp (maxSteps := 1000000) (disch := first | exact dq | fail) only [go_sem, h, b0, decide_false, hkw])) | fail)
    all_goals (try omega)
    ((with_reducible first | apply left_callf | apply leftD_callf | apply leftF_callf); (· with_reducible rfl); (· (simp (maxSteps := 1000000) (disch := first | exact dq | fail) only [go_sem]) <;> rfl); (· exact hS2); try (simp (maxSteps := 1000000) (disch := first | exact dq | fail) only [go_sem]))
    (repeat' first
  | ((with_reducible first | refine Nx.go ?_ | refine rP ?_ | refine rR ?_ | refine And.intro ?_ ?_ | fail) <;> try (simp (maxSteps := 1000000) (disch := first | exact dq | fail) only [go_sem, hqc']))
  | ((with_reducible refine Sp.go ?_ ?_) <;> intro h <;> (try (simp (maxSteps := 1000000) (disch := first | exact dq | fail) only [go_sem] at h)) <;> try (simp (maxSteps := 1000000) (disch := first | exact dq | fail) only [go_sem, h, hqc'])) | fail)
    all_goals (try omega)
    ((with_reducible first | apply left_callf | apply leftD_callf | apply leftF_callf); (· with_reducible rfl); (· (simp (maxSteps := 1000000) (disch := first | exact dq | fail) only [go_sem]) <;> rfl); (· exact hR1); try (simp (maxSteps := 1000000) (disch := first | exact dq | fail) only [go_sem]))
    (repeat' first
  | ((with_reducible first | refine Nx.go ?_ | refine rP ?_ | refine rR ?_ | refine And.intro ?_ ?_ | fail) <;> try (simp (maxSteps := 1000000) (disch := first | exact dq | fail) only [go_sem]))
  | ((with_reducible refine Sp.go ?_ ?_) <;> intro h <;> (try (simp (maxSteps := 1000000) (disch := first | exact dq | fail) only [go_sem] at h)) <;> try (simp (maxSteps := 1000000) (disch := first | exact dq | fail) only [go_sem, h])) | fail)
    all_goals (try omega)
    ((with_reducible first | apply left_callf | apply leftD_callf | apply leftF_callf); (· with_reducible rfl); (· (simp (maxSteps := 1000000) (disch := first | exact dq | fail) only [go_sem]) <;> rfl); (· exact hR2); try (simp (maxSteps := 1000000) (disch := first | exact dq | fail) only [go_sem]))
    (repeat' first
  | ((with_reducible first | refine Nx.go ?_ | refine rP ?_ | refine rR ?_ | refine And.intro ?_ ?_ | fail) <;> try (simp (maxSteps := 1000000) (disch := first | exact dq | fail) only [go_sem]))
  | ((with_reducible refine Sp.go ?_ ?_) <;> intro h <;> (try (simp (maxSteps := 1000000) (disch := first | exact dq | fail) only [go_sem] at h)) <;> try (simp (maxSteps := 1000000) (disch := first | exact dq | fail) only [go_sem, h])) | fail)
    all_goals (try omega)
    ((with_reducible first | apply left_callf | apply leftD_callf | apply leftF_callf); (· with_reducible rfl); (· (simp (maxSteps := 1000000) (disch := first | exact dq | fail) only [go_sem]) <;> rfl); (· exact hA2); try (simp (maxSteps := 1000000) (disch := first | exact dq | fail) only [go_sem]))
    (repeat' first
  | ((with_reducible first | refine Nx.go ?_ | refine rP ?_ | refine rR ?_ | refine And.intro ?_ ?_ | fail) <;> try (simp (maxSteps := 1000000) (disch := first | exact dq | fail) only [go_sem]))
  | ((with_reducible refine Sp.go ?_ ?_) <;> intro h <;> (try (simp (maxSteps := 1000000) (disch := first | exact dq | fail) only [go_sem] at h)) <;> try (simp (maxSteps := 1000000) (disch := first | exact dq | fail) only [go_sem, h])) | fail)
    all_goals (try omega)
theorem ShapedTurns_two (l : List Int) (sz : Int) (q : List Int) (hq : q.length = 2) : PCalls Tryz.prog 3 [inl l, .int .i64 sz, .agg (q.map (IV.int .i64))] (.bool true) := by
  match q, hq with
  | [x, y], _ => exact ShapedTurns_spec l sz x y
end Go.Proofs.YtpjncojljamacaaGreat.AM
