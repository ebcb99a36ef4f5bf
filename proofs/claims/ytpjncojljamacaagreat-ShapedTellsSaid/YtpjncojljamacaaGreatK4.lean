
/- The functions of chapter 3: places; and the document's answers. No condition. -/
import Derived.Test.YtpjncojljamacaaGreatK3
set_option linter.unusedVariables false
set_option linter.unusedSimpArgs false
set_option maxRecDepth 20000
namespace Go.Proofs.YtpjncojljamacaaGreat.AM
open Go Go.RowKit

theorem cntB_min (l : List Bool) (b : Bool) (i : Nat) : cntB l b (min i l.length) = cntB l b i := by
  rcases Nat.le_total i l.length with h | h
  · rw [Nat.min_eq_left h]
  · rw [Nat.min_eq_right h, cntB_all l b h]
theorem Rank0_spec (l : List Bool) (i : Int) (hl : l.length ≤ 100000000) : PCalls Tryz.prog 30 [rankV l, .int .i64 i] (.int .i64 (cntB l false i.toNat : Nat)) := by
  obtain ⟨m, hm, hml, hmi⟩ := clampN l.length i
  rw [← cntB_min, ← hmi]
  have hs := cntB_sum l hml
  have hR := Rank1_spec l (m : Int) hl
  rw [Int.toNat_natCast, ← cntB_true] at hR
  refine PCalls.of_aw Tryz.func30 rfl (by unfold Callable; kernel_rfl) (by kernel_rfl) (by simp [Tryz.ntmps30]) ?_; rw [Tryz.ntmps30, Tryz.results30]; (simp (disch := first | exact dq | fail) only [go_sem])
  (repeat' first
  | ((with_reducible first | refine Nx.go ?_ | refine rP ?_ | refine rR ?_ | refine And.intro ?_ ?_ | fail) <;> try (simp (disch := first | exact dq | fail) only [go_sem]))
  | ((with_reducible refine Sp.go ?_ ?_) <;> intro h <;> (try (simp (disch := first | exact dq | fail) only [go_sem] at h)) <;> try (simp (disch := first | exact dq | fail) only [go_sem, h])) | fail)
  ((with_reducible first | apply left_callf | apply leftD_callf | apply leftF_callf); (· with_reducible rfl); (· (simp (disch := first | exact dq | fail) only [go_sem]) <;> rfl); (· exact RLen_spec l); try (simp (disch := first | exact dq | fail) only [go_sem]))
  (repeat' first
  | ((with_reducible first | refine Nx.go ?_ | refine rP ?_ | refine rR ?_ | refine And.intro ?_ ?_ | fail) <;> try (simp (disch := first | exact dq | fail) only [go_sem, hm]))
  | ((with_reducible refine Sp.go ?_ ?_) <;> intro h <;> (try (simp (disch := first | exact dq | fail) only [go_sem] at h)) <;> try (simp (disch := first | exact dq | fail) only [go_sem, h, hm])) | fail)
  ((with_reducible first | apply left_callf | apply leftD_callf | apply leftF_callf); (· with_reducible rfl); (· (simp (disch := first | exact dq | fail) only [go_sem]) <;> rfl); (· exact hR); try (simp (disch := first | exact dq | fail) only [go_sem]))
  (repeat' first
  | ((with_reducible first | refine Nx.go ?_ | refine rP ?_ | refine rR ?_ | refine And.intro ?_ ?_ | fail) <;> try (simp (disch := first | exact dq | fail) only [go_sem]))
  | ((with_reducible refine Sp.go ?_ ?_) <;> intro h <;> (try (simp (disch := first | exact dq | fail) only [go_sem] at h)) <;> try (simp (disch := first | exact dq | fail) only [go_sem, h])) | fail)
  all_goals (try omega)
  congr 2
  omega

def rankM (l : List Bool) : MO := .var 60 [.iv (.int .i64 l.length), .iv (.sl 1 (ws l)), .iv (.int .i64 (cnt l l.length : Nat)), .iv (.int .i64 (aN l : Nat)), .iv (.int .i64 (aW l : Nat)), .iv (.int .i64 (aR l).length), .iv (.sl 1 (ws (aR l)))]
attribute [go_sem] rankM
theorem Sel1_spec (l : List Bool) (i : Int) (hl : l.length ≤ 100000000) : MCalls Tryz.prog 51 [.iv (.int .i64 i), .mp 0 0] [rankM l] (.iv (.int .i64 (cntB l true i.toNat : Nat))) [rankM l] := by
  refine MCalls.of_aw Tryz.func51 rfl (by unfold Callable; kernel_rfl) (by kernel_rfl) (by simp [Tryz.ntmps51]) (by (simp (disch := first | exact dq | fail) only [go_sem])) ?_; rw [Tryz.ntmps51, Tryz.results51]; (simp (disch := first | exact dq | fail) only [go_sem])
  (repeat' first
  | ((with_reducible first | refine Nx.go ?_ | refine rP ?_ | refine rR ?_ | refine And.intro ?_ ?_ | fail) <;> try (simp (disch := first | exact dq | fail) only [go_sem]))
  | ((with_reducible refine Sp.go ?_ ?_) <;> intro h <;> (try (simp (disch := first | exact dq | fail) only [go_sem] at h)) <;> try (simp (disch := first | exact dq | fail) only [go_sem, h])) | fail)
  ((with_reducible first | apply left_callf | apply leftD_callf | apply leftF_callf); (· with_reducible rfl); (· (simp (disch := first | exact dq | fail) only [go_sem]) <;> rfl); (· exact Rank1_spec l i hl); try (simp (disch := first | exact dq | fail) only [go_sem]))
  (repeat' first
  | ((with_reducible first | refine Nx.go ?_ | refine rP ?_ | refine rR ?_ | refine And.intro ?_ ?_ | fail) <;> try (simp (disch := first | exact dq | fail) only [go_sem]))
  | ((with_reducible refine Sp.go ?_ ?_) <;> intro h <;> (try (simp (disch := first | exact dq | fail) only [go_sem] at h)) <;> try (simp (disch := first | exact dq | fail) only [go_sem, h])) | fail)
  refine fin_k [0] ?_
  (simp (disch := first | exact dq | fail) only [go_sem])
  rfl
theorem RSel0M_spec (l : List Bool) (i : Int) (hl : l.length ≤ 100000000) : MCalls Tryz.prog 52 [.iv (.int .i64 i), .mp 0 0] [rankM l] (.iv (.int .i64 (cntB l false i.toNat : Nat))) [rankM l] := by
  refine MCalls.of_aw Tryz.func52 rfl (by unfold Callable; kernel_rfl) (by kernel_rfl) (by simp [Tryz.ntmps52]) (by (simp (disch := first | exact dq | fail) only [go_sem])) ?_; rw [Tryz.ntmps52, Tryz.results52]; (simp (disch := first | exact dq | fail) only [go_sem])
  (repeat' first
  | ((with_reducible first | refine Nx.go ?_ | refine rP ?_ | refine rR ?_ | refine And.intro ?_ ?_ | fail) <;> try (simp (disch := first | exact dq | fail) only [go_sem]))
  | ((with_reducible refine Sp.go ?_ ?_) <;> intro h <;> (try (simp (disch := first | exact dq | fail) only [go_sem] at h)) <;> try (simp (disch := first | exact dq | fail) only [go_sem, h])) | fail)
  ((with_reducible first | apply left_callf | apply leftD_callf | apply leftF_callf); (· with_reducible rfl); (· (simp (disch := first | exact dq | fail) only [go_sem]) <;> rfl); (· exact Rank0_spec l i hl); try (simp (disch := first | exact dq | fail) only [go_sem]))
  (repeat' first
  | ((with_reducible first | refine Nx.go ?_ | refine rP ?_ | refine rR ?_ | refine And.intro ?_ ?_ | fail) <;> try (simp (disch := first | exact dq | fail) only [go_sem]))
  | ((with_reducible refine Sp.go ?_ ?_) <;> intro h <;> (try (simp (disch := first | exact dq | fail) only [go_sem] at h)) <;> try (simp (disch := first | exact dq | fail) only [go_sem, h])) | fail)
  refine fin_k [0] ?_
  (simp (disch := first | exact dq | fail) only [go_sem])

theorem find_spec (f : Nat) (l : List Bool) (b : Bool) (k : Int) (hl : l.length ≤ 100000000) (hp : ∀ i : Int, MCalls Tryz.prog f [.iv (.int .i64 i), .mp 0 0] [rankM l] (.iv (.int .i64 (cntB l b i.toNat : Nat))) [rankM l]) :
    MCalls Tryz.prog 50 [.iv (rankV l), .iv (.int .i64 k), .iv (.int .i64 (cntB l b l.length : Nat)), .fn f [.mp 0 0]] [rankM l] (.iv (.int .i64 (selB l b k))) [rankM l] := by
  have hle := fs_le (cntB l b) l.length k
  have hlt := fun j => fs_lt (cntB l b) l.length k (j := j)
  have hge := fs_ge (cntB l b) l.length k
  by_cases hk : k < 0 ∨ (cntB l b l.length : Int) ≤ k
  · unfold selB
    rw [if_pos hk]
    refine MCalls.of_aw Tryz.func50 rfl (by unfold Callable; kernel_rfl) (by kernel_rfl) (by simp [Tryz.ntmps50]) (by (simp (disch := first | exact dq | fail) only [go_sem])) ?_; rw [Tryz.ntmps50, Tryz.results50]; (simp (disch := first | exact dq | fail) only [go_sem])
    (repeat' first
  | ((with_reducible first | refine Nx.go ?_ | refine rP ?_ | refine rR ?_ | refine And.intro ?_ ?_ | fail) <;> try (simp (disch := first | exact dq | fail) only [go_sem]))
  | ((with_reducible refine Sp.go ?_ ?_) <;> intro h <;> (try (simp (disch := first | exact dq | fail) only [go_sem] at h)) <;> try (simp (disch := first | exact dq | fail) only [go_sem, h])) | fail)
    all_goals (try omega)
    all_goals (refine fin_k [0] ?_; (simp (disch := first | exact dq | fail) only [go_sem]))
  · unfold selB
    rw [if_neg hk]
    generalize fs (cntB l b) l.length k = r at *
    refine MCalls.of_aw Tryz.func50 rfl (by unfold Callable; kernel_rfl) (by kernel_rfl) (by simp [Tryz.ntmps50]) (by (simp (disch := first | exact dq | fail) only [go_sem])) ?_; rw [Tryz.ntmps50, Tryz.results50]; (simp (disch := first | exact dq | fail) only [go_sem])
    (repeat' first
  | ((with_reducible first | refine Nx.go ?_ | refine rP ?_ | refine rR ?_ | refine And.intro ?_ ?_ | fail) <;> try (simp (disch := first | exact dq | fail) only [go_sem]))
  | ((with_reducible refine Sp.go ?_ ?_) <;> intro h <;> (try (simp (disch := first | exact dq | fail) only [go_sem] at h)) <;> try (simp (disch := first | exact dq | fail) only [go_sem, h])) | fail)
    all_goals (try omega)
    ((with_reducible first | apply left_callf | apply leftD_callf | apply leftF_callf); (· with_reducible rfl); (· (simp (disch := first | exact dq | fail) only [go_sem]) <;> rfl); (· exact RLen_spec l); try (simp (disch := first | exact dq | fail) only [go_sem]))
    (repeat' first
  | ((with_reducible first | refine Nx.go ?_ | refine rP ?_ | refine rR ?_ | refine And.intro ?_ ?_ | fail) <;> try (simp (disch := first | exact dq | fail) only [go_sem]))
  | ((with_reducible refine Sp.go ?_ ?_) <;> intro h <;> (try (simp (disch := first | exact dq | fail) only [go_sem] at h)) <;> try (simp (disch := first | exact dq | fail) only [go_sem, h])) | fail)
    refine aw_loop (α := Nat × Nat) (fun y => ⟨38, sl [(1, .iv (.int .i64 k)), (3, .fn f [.mp 0 0]), (9, .iv (.int .i64 y.1)), (10, .iv (.int .i64 y.2))], [rankM l], 1⟩)
      (fun y => y.1 ≤ r ∧ r ≤ y.2 ∧ y.2 ≤ l.length) (fun y => y.2 - y.1) (0, l.length) (wk_by [0] ?_) ⟨Nat.zero_le _, hle, Nat.le_refl _⟩ ?_
    · (simp (disch := first | exact dq | fail) only [go_sem])
    rintro ⟨lo, hi⟩ ⟨h1, h2, h3⟩
    dsimp only at h1 h2 h3
    by_cases hlh : lo < hi
    · (repeat' first
  | ((with_reducible first | refine Nx.go ?_ | refine rP ?_ | refine rR ?_ | refine And.intro ?_ ?_ | fail) <;> try (simp (disch := first | exact dq | fail) only [go_sem]))
  | ((with_reducible refine Sp.go ?_ ?_) <;> intro h <;> (try (simp (disch := first | exact dq | fail) only [go_sem] at h)) <;> try (simp (disch := first | exact dq | fail) only [go_sem, h])) | fail)
      all_goals (try omega)
      have hc := hp (((lo : Int) + hi) / 2 + 1)
      rw [show (((lo : Int) + hi) / 2 + 1).toNat = (lo + hi) / 2 + 1 by omega] at hc
      ((first | with_reducible refine left_callMs [0] (hc) ?_ ?_ | with_reducible refine leftD_callMs [0] rfl (hc) ?_ ?_ | with_reducible refine leftD_callRs [0] (by decide) (hc) ?_ ?_); (· (simp (disch := first | exact dq | fail) only [go_sem])); try (simp (disch := first | exact dq | fail) only [go_sem]))
      (repeat' first
  | ((with_reducible first | refine Nx.go ?_ | refine rP ?_ | refine rR ?_ | refine And.intro ?_ ?_ | fail) <;> try (simp (disch := first | exact dq | fail) only [go_sem]))
  | ((with_reducible refine Sp.go ?_ ?_) <;> intro h <;> (try (simp (disch := first | exact dq | fail) only [go_sem] at h)) <;> try (simp (disch := first | exact dq | fail) only [go_sem, h])) | fail)
      · refine ⟨(lo, (lo + hi) / 2), ⟨h1, ?_, by dsimp only; omega⟩, wk_by [0] ?_, by dsimp only; omega⟩
        · dsimp only
          rcases Nat.lt_or_ge ((lo + hi) / 2) r with hcc | hcc
          · have := hlt _ hcc; omega
          · exact hcc
        · (simp (disch := first | exact dq | fail) only [go_sem])
          congr 2
      · refine ⟨((lo + hi) / 2 + 1, hi), ⟨?_, h2, h3⟩, wk_by [0] ?_, by dsimp only; omega⟩
        · dsimp only
          rcases Nat.lt_or_ge ((lo + hi) / 2) r with hcc | hcc
          · exact hcc
          · exfalso
            have hr := hge (by omega)
            have := cntB_mono l b (show r + 1 ≤ (lo + hi) / 2 + 1 by omega)
            omega
        · (simp (disch := first | exact dq | fail) only [go_sem])
          congr 2
    · have e : lo = r := by omega
      subst e
      (repeat' first
  | ((with_reducible first | refine Nx.go ?_ | refine rP ?_ | refine rR ?_ | refine And.intro ?_ ?_ | fail) <;> try (simp (disch := first | exact dq | fail) only [go_sem]))
  | ((with_reducible refine Sp.go ?_ ?_) <;> intro h <;> (try (simp (disch := first | exact dq | fail) only [go_sem] at h)) <;> try (simp (disch := first | exact dq | fail) only [go_sem, h])) | fail)
      all_goals (try omega)
      refine fin_k [0] ?_
      (simp (disch := first | exact dq | fail) only [go_sem])

theorem Select1_spec (l : List Bool) (k : Int) (hl : l.length ≤ 100000000) : PCalls Tryz.prog 31 [rankV l, .int .i64 k] (.int .i64 (selB l true k)) := by
  have hF := find_spec 51 l true k hl (fun i => Sel1_spec l i hl)
  rw [cntB_true] at hF
  refine PCalls.of_aw Tryz.func31 rfl (by unfold Callable; kernel_rfl) (by kernel_rfl) (by simp [Tryz.ntmps31]) ?_; rw [Tryz.ntmps31, Tryz.results31]; (simp (disch := first | exact dq | fail) only [go_sem])
  (repeat' first
  | ((with_reducible first | refine Nx.go ?_ | refine rP ?_ | refine rR ?_ | refine And.intro ?_ ?_ | fail) <;> try (simp (disch := first | exact dq | fail) only [go_sem]))
  | ((with_reducible refine Sp.go ?_ ?_) <;> intro h <;> (try (simp (disch := first | exact dq | fail) only [go_sem] at h)) <;> try (simp (disch := first | exact dq | fail) only [go_sem, h])) | fail)
  ((first | with_reducible refine left_callMs [0] (hF) ?_ ?_ | with_reducible refine leftD_callMs [0] rfl (hF) ?_ ?_ | with_reducible refine leftD_callRs [0] (by decide) (hF) ?_ ?_); (· (simp (disch := first | exact dq | fail) only [go_sem])); try (simp (disch := first | exact dq | fail) only [go_sem]))
  (repeat' first
  | ((with_reducible first | refine Nx.go ?_ | refine rP ?_ | refine rR ?_ | refine And.intro ?_ ?_ | fail) <;> try (simp (disch := first | exact dq | fail) only [go_sem]))
  | ((with_reducible refine Sp.go ?_ ?_) <;> intro h <;> (try (simp (disch := first | exact dq | fail) only [go_sem] at h)) <;> try (simp (disch := first | exact dq | fail) only [go_sem, h])) | fail)
theorem Select0_spec (l : List Bool) (k : Int) (hl : l.length ≤ 100000000) : PCalls Tryz.prog 32 [rankV l, .int .i64 k] (.int .i64 (selB l false k)) := by
  have hF := find_spec 52 l false k hl (fun i => RSel0M_spec l i hl)
  have hs := cntB_sum l (Nat.le_refl l.length)
  rw [cntB_true] at hs
  have e : (l.length : Int) - (cnt l l.length : Nat) = (cntB l false l.length : Nat) := by omega
  refine PCalls.of_aw Tryz.func32 rfl (by unfold Callable; kernel_rfl) (by kernel_rfl) (by simp [Tryz.ntmps32]) ?_; rw [Tryz.ntmps32, Tryz.results32]; (simp (disch := first | exact dq | fail) only [go_sem])
  (repeat' first
  | ((with_reducible first | refine Nx.go ?_ | refine rR ?_ | refine And.intro ?_ ?_ | fail) <;> try (simp (disch := first | exact dq | fail) only [go_sem]))
  | ((with_reducible refine Sp.go ?_ ?_) <;> intro h <;> (try (simp (disch := first | exact dq | fail) only [go_sem] at h)) <;> try (simp (disch := first | exact dq | fail) only [go_sem, h])) | fail)
  ((with_reducible first | apply left_callf | apply leftD_callf | apply leftF_callf); (· with_reducible rfl); (· (simp (disch := first | exact dq | fail) only [go_sem]) <;> rfl); (· exact RLen_spec l); try (simp (disch := first | exact dq | fail) only [go_sem]))
  all_goals (try omega)
  (simp (disch := first | exact dq | fail) only [go_sem, e])
  ((first | with_reducible refine left_callMs [0] (hF) ?_ ?_ | with_reducible refine leftD_callMs [0] rfl (hF) ?_ ?_ | with_reducible refine leftD_callRs [0] (by decide) (hF) ?_ ?_); (· (simp (disch := first | exact dq | fail) only [go_sem])); try (simp (disch := first | exact dq | fail) only [go_sem]))
  (repeat' first
  | ((with_reducible first | refine Nx.go ?_ | refine rP ?_ | refine rR ?_ | refine And.intro ?_ ?_ | fail) <;> try (simp (disch := first | exact dq | fail) only [go_sem]))
  | ((with_reducible refine Sp.go ?_ ?_) <;> intro h <;> (try (simp (disch := first | exact dq | fail) only [go_sem] at h)) <;> try (simp (disch := first | exact dq | fail) only [go_sem, h])) | fail)
end Go.Proofs.YtpjncojljamacaaGreat.AM
