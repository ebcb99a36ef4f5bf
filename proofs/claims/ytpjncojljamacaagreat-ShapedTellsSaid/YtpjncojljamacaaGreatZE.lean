
/- Chapter 5: codes of symbols, by depths, plainly. No condition. -/
import Derived.Test.YtpjncojljamacaaGreatZD
set_option linter.unusedVariables false
set_option linter.unusedSimpArgs false
namespace Go.Proofs.YtpjncojljamacaaGreat.AM
open Go Go.RowKit

def ordD (dd : List Int) : List Nat := (List.range dd.length).flatMap (fun d => (List.range dd.length).filter (fun c => decide (dd.getD c 0 = ((d + 1 : Nat) : Int))))
theorem ordD_mem {dd : List Int} (hb : ∀ c, c < dd.length → dd.getD c 0 ≤ dd.length) {c : Nat} : c ∈ ordD dd ↔ c < dd.length ∧ 0 < dd.getD c 0 := by
  unfold ordD
  rw [List.mem_flatMap]
  constructor
  · rintro ⟨d, hd, hc⟩
    rw [List.mem_filter, List.mem_range, decide_eq_true_eq] at hc
    exact ⟨hc.1, by rw [hc.2]; omega⟩
  · rintro ⟨h1, h2⟩
    have := hb c h1
    refine ⟨(dd.getD c 0).toNat - 1, List.mem_range.2 (by omega), List.mem_filter.2 ⟨List.mem_range.2 h1, ?_⟩⟩
    rw [decide_eq_true_eq]; omega
theorem ordD_pw (dd : List Int) : (ordD dd).Pairwise (fun a b => dd.getD a 0 < dd.getD b 0 ∨ (dd.getD a 0 = dd.getD b 0 ∧ a < b)) := by
  unfold ordD
  rw [List.pairwise_flatMap]
  refine ⟨fun d _ => ?_, List.pairwise_lt_range.imp (fun h x hx y hy => ?_)⟩
  · rw [List.pairwise_filter]
    refine List.pairwise_lt_range.imp (fun h h1 h2 => ?_)
    rw [decide_eq_true_eq] at h1 h2
    exact .inr ⟨by rw [h1, h2], h⟩
  · rw [List.mem_filter, decide_eq_true_eq] at hx hy
    left; omega
theorem ordD_nodup (dd : List Int) : (ordD dd).Nodup := (ordD_pw dd).imp (fun h e => by subst e; omega)
def depsD (dd : List Int) : List Nat := (ordD dd).map (fun c => (dd.getD c 0).toNat)
theorem depsD_srt (dd : List Int) : (depsD dd).Pairwise (· ≤ ·) := by
  unfold depsD
  rw [List.pairwise_map]
  exact (ordD_pw dd).imp (fun h => by omega)
def cdsL (dd : List Int) : List (List Bool) := (List.range dd.length).map (fun c => (cdL true [] (depsD dd)).getD ((ordD dd).idxOf c) [])
theorem cdsL_len (dd : List Int) : (cdsL dd).length = dd.length := by simp [cdsL]
theorem cdsL_at {dd : List Int} {c : Nat} (h : c < dd.length) : (cdsL dd).getD c [] = (cdL true [] (depsD dd)).getD ((ordD dd).idxOf c) [] := by
  unfold cdsL; simp [List.getD, h]
theorem cds_none {dd : List Int} {c : Nat} (hc : c ∉ ordD dd) : (cdsL dd).getD c [] = [] := by
  by_cases h : c < dd.length
  · rw [cdsL_at h, List.getD, List.getElem?_eq_none]
    · rfl
    · rw [cdL_len, List.idxOf_eq_length hc]
      unfold depsD; rw [List.length_map]; exact Nat.le_refl _
  · rw [List.getD, List.getElem?_eq_none (by rw [cdsL_len]; omega)]; rfl
theorem ord_idx {dd : List Int} {c : Nat} (hc : c ∈ ordD dd) : (ordD dd).idxOf c < (depsD dd).length ∧ (depsD dd).getD ((ordD dd).idxOf c) 0 = (dd.getD c 0).toNat := by
  have h1 := List.idxOf_lt_length_of_mem hc
  refine ⟨by unfold depsD; rw [List.length_map]; exact h1, ?_⟩
  unfold depsD
  rw [List.getD, List.getElem?_map, List.getElem?_eq_getElem h1, List.getElem_idxOf]; rfl
section
variable {counts : List Int}
theorem dps_bd {c : Nat} (h : c < (dpsL counts).length) : (dpsL counts).getD c 0 ≤ (dpsL counts).length := by
  rw [dpsL_len] at h ⊢
  by_cases hc : c ∈ cntS counts
  · rw [dps_cnt counts hc]
    have hm := dpH_mem counts hc
    obtain ⟨i, hi, e⟩ := List.getElem_of_mem hm
    have := dpH_le counts i
    rw [← getD_eqN hi, e] at this
    have h2 : manyC counts ≤ counts.length := by
      rw [← cntS_len]
      have := List.length_filter_le (fun c => decide (0 < counts.getD c 0)) (List.range counts.length)
      rw [List.length_range] at this
      exact this
    omega
  · rw [dps_not counts h hc]; omega
theorem many_le : manyC counts ≤ counts.length := by
  rw [← cntS_len]
  have := List.length_filter_le (fun c => decide (0 < counts.getD c 0)) (List.range counts.length)
  rw [List.length_range] at this
  exact this
theorem ord_iff {c : Nat} : c ∈ ordD (dpsL counts) ↔ c ∈ cntS counts ∧ 2 ≤ manyC counts := by
  rw [ordD_mem (fun c h => dps_bd h), dpsL_len]
  constructor
  · rintro ⟨h1, h2⟩
    by_cases hc : c ∈ cntS counts
    · refine ⟨hc, ?_⟩
      rw [dps_cnt counts hc] at h2
      have hm := dpH_mem counts hc
      by_cases h3 : manyC counts = 1
      · rw [dpH_one counts h3, List.mem_singleton] at hm; omega
      · have : 0 < manyC counts := by rw [← cntS_len]; exact List.length_pos_iff.2 (List.ne_nil_of_mem hc)
        omega
    · rw [dps_not counts h1 hc] at h2; omega
  · rintro ⟨hc, h2⟩
    have := dpH_pos counts h2 (dpH_mem counts hc)
    exact ⟨(cntS_mem.1 hc).1, by rw [dps_cnt counts hc]; omega⟩
theorem deps_perm (h : 2 ≤ manyC counts) : (depsD (dpsL counts)).Perm (dpH counts) := by
  refine List.Perm.trans ?_ (dpH_perm counts).symm
  have hp : (ordD (dpsL counts)).Perm (cntS counts) := (List.perm_ext_iff_of_nodup (ordD_nodup _) (List.nodup_range.filter _)).2 (fun c => by
    rw [ord_iff]
    exact ⟨fun g => g.1, fun g => ⟨g, h⟩⟩)
  exact hp.map _
theorem deps_fill (h : 2 ≤ manyC counts) {B : Nat} (hB : manyC counts ≤ B + 1) : krf B (depsD (dpsL counts)) = 2 ^ B := by
  rw [krf_perm (deps_perm h), dpH_fill counts B (by omega) hB]
theorem deps_le (h : 2 ≤ manyC counts) {d : Nat} (hd : d ∈ depsD (dpsL counts)) : d ≤ manyC counts - 1 := by
  obtain ⟨i, hi, e⟩ := List.getElem_of_mem ((deps_perm h).mem_iff.1 hd)
  rw [← e, getD_eqN hi]
  exact dpH_le counts i
def kdsL (counts : List Int) : List (List Bool) := cdsL (dpsL counts)
theorem kds_len (counts : List Int) : (kdsL counts).length = counts.length := by unfold kdsL; rw [cdsL_len, dpsL_len]
theorem kd_none {c : Nat} (h : ¬ (c ∈ cntS counts ∧ 2 ≤ manyC counts)) : (kdsL counts).getD c [] = [] := cds_none (fun g => h (ord_iff.1 g))
theorem kd_len {c : Nat} (hc : c ∈ cntS counts) (h : 2 ≤ manyC counts) : ((kdsL counts).getD c []).length = dpN counts c ∧ 1 ≤ dpN counts c ∧ dpN counts c ≤ manyC counts - 1 := by
  have ho := ord_iff.2 ⟨hc, h⟩
  obtain ⟨h1, h2⟩ := ord_idx ho
  have hat := (cdL_at (manyC counts) (depsD (dpsL counts)) true [] 0 (depsD_srt _) (fun d hd => ⟨by have := deps_le h hd; omega, Nat.zero_le _⟩) (by rw [if_pos rfl]; exact ⟨rfl, rfl⟩)
    (by rw [deps_fill h (Nat.le_succ _)]; omega) _ h1).1
  have hm := dpH_mem counts hc
  unfold kdsL
  rw [cdsL_at (by rw [dpsL_len]; exact (cntS_mem.1 hc).1), hat, h2]
  refine ⟨rfl, dpH_pos counts h hm, ?_⟩
  obtain ⟨i, hi, e⟩ := List.getElem_of_mem hm
  have := dpH_le counts i
  rw [← getD_eqN hi, e] at this
  exact this
theorem kd_free {c k : Nat} (hc : c ∈ cntS counts) (hk : k ∈ cntS counts) (hck : c ≠ k) : ¬ (kdsL counts).getD c [] <+: (kdsL counts).getD k [] := by
  have h : 2 ≤ manyC counts := by
    rw [← cntS_len]
    by_cases g : 2 ≤ (cntS counts).length
    · exact g
    · exfalso
      generalize cntS counts = l at *
      match l, hc, hk with
      | [x], hc, hk => rw [List.mem_singleton] at hc hk; exact hck (hc.trans hk.symm)
      | _ :: _ :: _, _, _ => simp at g
  have oc := ord_iff.2 ⟨hc, h⟩
  have ok := ord_iff.2 ⟨hk, h⟩
  obtain ⟨c1, _⟩ := ord_idx oc
  obtain ⟨k1, _⟩ := ord_idx ok
  unfold kdsL
  rw [cdsL_at (by rw [dpsL_len]; exact (cntS_mem.1 hc).1), cdsL_at (by rw [dpsL_len]; exact (cntS_mem.1 hk).1)]
  refine cdL_free (manyC counts) _ (depsD_srt _) (fun d hd => by have := deps_le h hd; omega) (by rw [deps_fill h (Nat.le_succ _)]; exact Nat.le_refl _) (fun e => hck ?_) c1 k1
  have e1 : (ordD (dpsL counts))[(ordD (dpsL counts)).idxOf c]? = some c := by rw [List.getElem?_eq_getElem (List.idxOf_lt_length_of_mem oc), List.getElem_idxOf]
  have e2 : (ordD (dpsL counts))[(ordD (dpsL counts)).idxOf k]? = some k := by rw [List.getElem?_eq_getElem (List.idxOf_lt_length_of_mem ok), List.getElem_idxOf]
  rw [e, e2] at e1
  exact (Option.some.inj e1).symm
end
end Go.Proofs.YtpjncojljamacaaGreat.AM
