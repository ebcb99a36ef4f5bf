
/- Chapter 5: codes of symbols, plainly. No condition. -/
import Derived.Test.YtpjncojljamacaaGreatZC
import Derived.Test.YtpjncojljamacaaGreatOO
set_option linter.unusedVariables false
set_option linter.unusedSimpArgs false
namespace Go.Proofs.YtpjncojljamacaaGreat.AM
open Go Go.RowKit

def cntS (counts : List Int) : List Nat := (List.range counts.length).filter (fun c => decide (0 < counts.getD c 0))
theorem cntS_mem {counts : List Int} {c : Nat} : c ∈ cntS counts ↔ c < counts.length ∧ 0 < counts.getD c 0 := by
  unfold cntS
  rw [List.mem_filter, List.mem_range, decide_eq_true_eq]
theorem cntS_len (counts : List Int) : (cntS counts).length = manyC counts := by unfold cntS manyC hps0; rw [List.length_map]
def dpN (counts : List Int) (c : Nat) : Nat := ((dpsL counts).getD c 0).toNat
theorem getD_eqN {D : List Nat} {i : Nat} (h : i < D.length) : D[i] = D.getD i 0 := by simp [List.getD, List.getElem?_eq_getElem h]
theorem dpH_perm (counts : List Int) : (dpH counts).Perm ((cntS counts).map (dpN counts)) := by
  have e : dpH counts = (srtH (hps0 counts)).map (fun h => dpN counts h.n.toNat) := by
    refine List.ext_getElem (by rw [dpH_len, List.length_map, srt_len]) (fun i h1 h2 => ?_)
    rw [dpH_len] at h1
    have hm : (srtH (hps0 counts)).getD i hp0 ∈ hps0 counts := (srtH_perm _).mem_iff.1 (memH (by rw [srt_len]; exact h1))
    obtain ⟨c, c1, c2, c3⟩ := hps0_mem.1 hm
    obtain ⟨j, j1, j2, j3⟩ := (dps_at counts c1).1 c2
    have hs := srtH_srt _ (hps0_num counts)
    have hij : i = j := by
      rcases Nat.lt_trichotomy i j with g | g | g
      · have := List.pairwise_iff_getElem.1 hs i j (by rw [srt_len]; omega) (by rw [srt_len]; omega) g
        rw [show (srtH (hps0 counts))[i]'(by rw [srt_len]; omega) = (srtH (hps0 counts)).getD i hp0 by simp [List.getD, srt_len, h1], show (srtH (hps0 counts))[j]'(by rw [srt_len]; omega) = (srtH (hps0 counts)).getD j hp0 by simp [List.getD, srt_len, j1], c3, j2] at this
        exact absurd this (ltH_irr _)
      · exact g
      · have := List.pairwise_iff_getElem.1 hs j i (by rw [srt_len]; omega) (by rw [srt_len]; omega) g
        rw [show (srtH (hps0 counts))[i]'(by rw [srt_len]; omega) = (srtH (hps0 counts)).getD i hp0 by simp [List.getD, srt_len, h1], show (srtH (hps0 counts))[j]'(by rw [srt_len]; omega) = (srtH (hps0 counts)).getD j hp0 by simp [List.getD, srt_len, j1], c3, j2] at this
        exact absurd this (ltH_irr _)
    subst hij
    have e2 : (srtH (hps0 counts))[i]'(by rw [srt_len]; omega) = (srtH (hps0 counts)).getD i hp0 := by simp [List.getD, srt_len, h1]
    rw [List.getElem_map, e2, c3, getD_eqN]
    show _ = dpN counts ((c : Int)).toNat
    unfold dpN
    rw [Int.toNat_natCast, j3, Int.toNat_natCast]
  rw [e]
  refine ((srtH_perm (hps0 counts)).map _).trans ?_
  unfold hps0 cntS
  rw [List.map_map]
  refine List.Perm.of_eq (List.map_congr_left (fun c _ => ?_))
  show dpN counts ((c : Int)).toNat = _
  rw [Int.toNat_natCast]
theorem krf_perm {B : Nat} {D D' : List Nat} (h : D.Perm D') : krf B D = krf B D' := (h.map _).sum_nat
theorem dpH_fill (counts : List Int) (B : Nat) (h1 : 1 ≤ manyC counts) (h2 : manyC counts ≤ B + 1) : krf B (dpH counts) = 2 ^ B := by
  unfold dpH
  refine hd_fills _ _ _ B (by rw [srt_len]; exact Nat.le_succ _) (fun e => ?_) (by rw [srt_len]; exact h2)
  have := srt_len counts
  rw [e] at this
  simp at this; omega
theorem dpH_one (counts : List Int) (h : manyC counts = 1) : dpH counts = [0] := by
  have hl := dpH_len counts
  have := hdL_le (manyC counts) counts.length (srtH (hps0 counts)) 0
  rw [srt_len] at this
  unfold dpH at hl ⊢
  generalize hdL (manyC counts) counts.length (srtH (hps0 counts)) = D at *
  match D, hl with
  | [d], _ => simp at this; rw [show d = 0 by omega]
  | [], hl => simp at hl; omega
  | _ :: _ :: _, hl => simp at hl; omega
theorem dpH_le (counts : List Int) (i : Nat) : (dpH counts).getD i 0 ≤ manyC counts - 1 := by
  have := hdL_le (manyC counts) counts.length (srtH (hps0 counts)) i
  rw [srt_len] at this
  exact this
theorem krf_mem {B d : Nat} : ∀ {D : List Nat}, d ∈ D → 2 ≤ D.length → (∀ x ∈ D, x ≤ B) → 2 ^ (B - d) < krf B D
  | x :: D, hd, hl, hB => by
    have hpos : ∀ x : Nat, 0 < 2 ^ (B - x) := fun x => Nat.pow_pos (by decide)
    rw [krf_cons]
    rcases List.mem_cons.1 hd with rfl | hd
    · match D, hl with
      | y :: D, _ => rw [krf_cons]; have := hpos y; omega
    · have h1 : 2 ^ (B - d) ≤ krf B D := by
        clear hl hB
        induction D with
        | nil => cases hd
        | cons z D ih =>
          rw [krf_cons]
          have hz := hpos z
          rcases List.mem_cons.1 hd with rfl | hd
          · omega
          · have := ih (by simp [hd]) hd; omega
      have := hpos x
      omega
theorem dpH_pos (counts : List Int) (h : 2 ≤ manyC counts) {d : Nat} (hd : d ∈ dpH counts) : 1 ≤ d := by
  have h1 := dpH_fill counts (manyC counts) (by omega) (by omega)
  have h2 := krf_mem (B := manyC counts) hd (by rw [dpH_len]; exact h) (fun x hx => by
    obtain ⟨i, hi, rfl⟩ := List.getElem_of_mem hx
    have := dpH_le counts i
    rw [← getD_eqN hi] at this
    omega)
  rw [h1] at h2
  by_cases c : d = 0
  · subst c; rw [Nat.sub_zero] at h2; exact absurd h2 (Nat.lt_irrefl _)
  · omega
theorem dpH_mem (counts : List Int) {c : Nat} (hc : c ∈ cntS counts) : dpN counts c ∈ dpH counts := (dpH_perm counts).mem_iff.2 (List.mem_map_of_mem hc)
theorem dps_cnt (counts : List Int) {c : Nat} (hc : c ∈ cntS counts) : (dpsL counts).getD c 0 = dpN counts c := by
  obtain ⟨h1, h2⟩ := cntS_mem.1 hc
  obtain ⟨i, _, _, h3⟩ := (dps_at counts h1).1 h2
  unfold dpN
  rw [h3, Int.toNat_natCast]
theorem dps_not (counts : List Int) {c : Nat} (h : c < counts.length) (hc : c ∉ cntS counts) : (dpsL counts).getD c 0 = -1 := (dps_at counts h).2 (fun hp => hc (cntS_mem.2 ⟨h, hp⟩))
end Go.Proofs.YtpjncojljamacaaGreat.AM
