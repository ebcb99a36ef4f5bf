
/- The functions of chapter 3: a row that is counted. No condition. -/
import Derived.Test.YtpjncojljamacaaGreatK1
set_option linter.unusedVariables false
set_option linter.unusedSimpArgs false
set_option maxRecDepth 20000
namespace Go.Proofs.YtpjncojljamacaaGreat.AM
open Go Go.RowKit

def ahL (l : List Bool) (j : Nat) : List Int := (List.range j).map fun k => (cnt l (256 * k) : Int)
theorem ahL_len (l : List Bool) (j : Nat) : (ahL l j).length = j := by simp [ahL]
theorem ahL_succ (l : List Bool) (j : Nat) : ahL l (j + 1) = ahL l j ++ [(cnt l (256 * j) : Int)] := by simp [ahL, List.range_succ]
theorem ahL_get (l : List Bool) {j k : Nat} (h : k < j) : (ahL l j).getD k 0 = (cnt l (256 * k) : Int) := by simp [ahL, List.getD, h]
theorem ahL_in (l : List Bool) (j : Nat) : ∀ x ∈ ahL l j, 0 ≤ x ∧ x ≤ l.length := by
  intro x hx
  obtain ⟨k, _, rfl⟩ := List.mem_map.1 hx
  have := (cnt_le l (256 * k)).2
  omega
def aN (l : List Bool) : Nat := (l.length + 255) / 256
def aW (l : List Bool) : Nat := widN (mostI (ahL l (aN l)))
def aR (l : List Bool) : List Bool := rowOf (ahL l (aN l)) (aW l)
theorem ah_facts (l : List Bool) (hl : l.length ≤ 100000000) : aW l ≤ 62 ∧ (aR l).length = aN l * aW l ∧ (aR l).length ≤ 62000000000 ∧ vals (aN l) (aW l) (aR l) = ahL l (aN l) ∧ aN l ≤ 1000000 := by
  have hb : ∀ x ∈ ahL l (aN l), 0 ≤ x ∧ x < 4611686018427387904 := fun x hx => by have := ahL_in l _ x hx; omega
  have h1 := (tight_ok hb).2
  have h2 := tight_vals hb
  have h3 := rowOf_len (ahL l (aN l)) (aW l)
  rw [ahL_len] at h2 h3
  have h4 : aN l ≤ 1000000 := by unfold aN; omega
  have h5 : aN l * aW l ≤ 1000000 * 62 := Nat.mul_le_mul h4 h1
  exact ⟨h1, h3, by unfold aR; omega, h2, h4⟩
def rankV (l : List Bool) : IV := .agg [.int .i64 l.length, .sl 1 (ws l), .int .i64 (cnt l l.length : Nat), .int .i64 (aN l : Nat), .int .i64 (aW l : Nat), .int .i64 (aR l).length, .sl 1 (ws (aR l))]
@[go_sem] theorem fold_rankV (l : List Bool) : IV.agg [.int .i64 l.length, .sl 1 (ws l), .int .i64 (cnt l l.length : Nat), .int .i64 (aN l : Nat), .int .i64 (aW l : Nat), .int .i64 (aR l).length, .sl 1 (ws (aR l))] = rankV l := rfl
@[go_sem] theorem cells_rankV (l : List Bool) : AV.cells (.iv (rankV l)) = some [.iv (.int .i64 l.length), .iv (.sl 1 (ws l)), .iv (.int .i64 (cnt l l.length : Nat)), .iv (.int .i64 (aN l : Nat)), .iv (.int .i64 (aW l : Nat)), .iv (.int .i64 (aR l).length), .iv (.sl 1 (ws (aR l)))] := rfl
@[go_sem] theorem icells_rankV (l : List Bool) : IV.cells (rankV l) = [.int .i64 l.length, .sl 1 (ws l), .int .i64 (cnt l l.length : Nat), .int .i64 (aN l : Nat), .int .i64 (aW l : Nat), .int .i64 (aR l).length, .sl 1 (ws (aR l))] := rfl
@[go_sem] theorem fits_rankV (l : List Bool) : IV.fits 7 (rankV l) = true := rfl
@[go_sem ↓] theorem toIVF_rankV (M : List MO) (l : List Bool) : toIVF M (.iv (rankV l)) = some (rankV l, M) := rfl
@[go_sem] theorem fieldV_rankV (ag : Option Nat) (off : Nat) (M : List MO) (l : List Bool) : fieldV ag off (.iv (rankV l)) M = (elemPart ag (rankV l) off).map fun v => (.p, .iv v, M) := rfl

theorem ones_block (l : List Bool) (j : Nat) (h : 256 * j < l.length) : ((cnt l (min (max ((256 * j : Int) + 256) (min (max (256 * j : Int) 0) l.length)) l.length).toNat : Int) - cnt l (min (max (256 * j : Int) 0) l.length).toNat) = (cnt l (256 * (j + 1)) : Int) - cnt l (256 * j) := by
  have e1 : (min (max (256 * j : Int) 0) l.length).toNat = 256 * j := by omega
  have e2 : cnt l (min (max ((256 * j : Int) + 256) (min (max (256 * j : Int) 0) l.length)) l.length).toNat = cnt l (256 * (j + 1)) := by
    rcases Nat.lt_or_ge l.length (256 * (j + 1)) with h1 | h1
    · have e3 : (min (max ((256 * j : Int) + 256) (min (max (256 * j : Int) 0) l.length)) l.length).toNat = l.length := by omega
      rw [e3, ← cntB_true, ← cntB_true, cntB_all l true (show l.length ≤ 256 * (j + 1) by omega)]
    · rw [show (min (max ((256 * j : Int) + 256) (min (max (256 * j : Int) 0) l.length)) l.length).toNat = 256 * (j + 1) by omega]
  rw [e1, e2]

theorem RNew_spec (l : List Bool) (hl : l.length ≤ 100000000) : PCalls Tryz.prog 26 [bitsV l] (rankV l) := by
  refine PCalls.of_aw Tryz.func26 rfl (by unfold Callable; kernel_rfl) (by kernel_rfl) (by simp [Tryz.ntmps26]) ?_; rw [Tryz.ntmps26, Tryz.results26]; (simp (disch := first | exact dq | fail) only [go_sem])
  (repeat' first
  | ((with_reducible first | refine Nx.go ?_ | refine rP ?_ | refine rR ?_ | refine And.intro ?_ ?_ | fail) <;> try (simp (disch := first | exact dq | fail) only [go_sem]))
  | ((with_reducible refine Sp.go ?_ ?_) <;> intro h <;> (try (simp (disch := first | exact dq | fail) only [go_sem] at h)) <;> try (simp (disch := first | exact dq | fail) only [go_sem, h])) | fail)
  refine aw_loop (α := Nat) (fun j => ⟨37, sl [(1, .mp 0 0), (2, .mp 1 0), (3, .msl 2 0 j j), (4, .iv (.int .i64 (cnt l (256 * j) : Nat))), (5, .iv (.int .i64 (256 * (j : Int))))],
    [.var 56 [.iv (.int .i64 l.length), .iv (.sl 1 (ws l))], .var 60 [.iv (.int .i64 0), .nilsl, .iv (.int .i64 0), .iv (.int .i64 0), .iv (.int .i64 0), .iv (.int .i64 0), .nilsl], .row true 3 1 ((ahL l j).map (IV.int .i64))], 0⟩)
    (fun j => j ≤ aN l) (fun j => aN l - j) 0 (wk_by [0, 1, 2] ?_) (by omega) ?_
  · (simp (disch := first | exact dq | fail) only [go_sem])
    exact ⟨rfl, rfl⟩
  rintro j hj
  have hjl := ahL_len l j
  have haN : aN l = (l.length + 255) / 256 := rfl
  have hc := cnt_le l (256 * j)
  have hc2 := cnt_le l (256 * (j + 1))
  have hf := ah_facts l hl
  (repeat' first
  | ((with_reducible first | refine Nx.go ?_ | refine rP ?_ | refine rR ?_ | refine And.intro ?_ ?_ | fail) <;> try (simp (disch := first | exact dq | fail) only [go_sem]))
  | ((with_reducible refine Sp.go ?_ ?_) <;> intro h <;> (try (simp (disch := first | exact dq | fail) only [go_sem] at h)) <;> try (simp (disch := first | exact dq | fail) only [go_sem, h])) | fail)
  ((with_reducible first | apply left_callf | apply leftD_callf | apply leftF_callf); (· with_reducible rfl); (· (simp (disch := first | exact dq | fail) only [go_sem]) <;> rfl); (· exact Len_spec l); try (simp (disch := first | exact dq | fail) only [go_sem]))
  (repeat' first
  | ((with_reducible first | refine Nx.go ?_ | refine rP ?_ | refine rR ?_ | refine And.intro ?_ ?_ | fail) <;> try (simp (disch := first | exact dq | fail) only [go_sem, hjl]))
  | ((with_reducible refine Sp.go ?_ ?_) <;> intro h <;> (try (simp (disch := first | exact dq | fail) only [go_sem] at h)) <;> try (simp (disch := first | exact dq | fail) only [go_sem, h, hjl])) | fail)
  all_goals (try omega)
  · have hO := Ones_spec l (256 * (j : Int)) (256 * (j : Int) + 256) (by omega)
    rw [ones_block l j (by omega)] at hO
    have hmo := cnt_mono l (show 256 * j ≤ 256 * (j + 1) by omega)
    ((with_reducible first | apply left_callf | apply leftD_callf | apply leftF_callf); (· with_reducible rfl); (· (simp (disch := first | exact dq | fail) only [go_sem]) <;> rfl); (· exact hO); try (simp (disch := first | exact dq | fail) only [go_sem]))
    (repeat' first
  | ((with_reducible first | refine Nx.go ?_ | refine rP ?_ | refine rR ?_ | refine And.intro ?_ ?_ | fail) <;> try (simp (disch := first | exact dq | fail) only [go_sem, hjl]))
  | ((with_reducible refine Sp.go ?_ ?_) <;> intro h <;> (try (simp (disch := first | exact dq | fail) only [go_sem] at h)) <;> try (simp (disch := first | exact dq | fail) only [go_sem, h, hjl])) | fail)
    all_goals (try omega)
    refine ⟨j + 1, by omega, wk_by [0, 1, 2] ?_, by omega⟩
    (simp (disch := first | exact dq | fail) only [go_sem, ahL_succ, List.map_append])
    refine ⟨?_, ?_⟩
    · congr 2; omega
    · congr 1
  · have ej : j = aN l := by omega
    have ec : cnt l (256 * aN l) = cnt l l.length := by
      rw [← cntB_true, ← cntB_true, cntB_all l true (show l.length ≤ 256 * aN l by omega)]
    subst ej
    have hT := Tight_good (ahL l (aN l)) (by omega) (fun x hx => by have := ahL_in l _ x hx; omega)
    rw [ec]
    have hR : rankV l = .agg [.int .i64 l.length, .sl 1 (ws l), .int .i64 (cnt l l.length : Nat), .int .i64 ((ahL l (aN l)).length : Nat), .int .i64 (widN (mostI (ahL l (aN l))) : Nat), .int .i64 (rowOf (ahL l (aN l)) (widN (mostI (ahL l (aN l))))).length, .sl 1 (ws (rowOf (ahL l (aN l)) (widN (mostI (ahL l (aN l))))))] := by
      rw [hjl]; rfl
    rw [hR]
    have hal := hjl.symm
    clear hR hf hj hc hc2 hjl
    generalize ahL l (aN l) = A at *
    rw [hal]
    ((with_reducible apply left_callfF); (· with_reducible rfl); (· (simp (disch := first | exact dq | fail) only [go_sem]) <;> rfl); (· exact hT); try (simp (disch := first | exact dq | fail) only [go_sem]))
    (repeat' first
  | ((with_reducible first | refine Nx.go ?_ | refine rP ?_ | refine rR ?_ | refine And.intro ?_ ?_ | fail) <;> try (simp (disch := first | exact dq | fail) only [go_sem]))
  | ((with_reducible refine Sp.go ?_ ?_) <;> intro h <;> (try (simp (disch := first | exact dq | fail) only [go_sem] at h)) <;> try (simp (disch := first | exact dq | fail) only [go_sem, h])) | fail)
    all_goals (try omega)
end Go.Proofs.YtpjncojljamacaaGreat.AM
