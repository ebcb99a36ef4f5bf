
/- Chapter 5: depths of symbols, plainly. No condition. -/
import Derived.Test.YtpjncojljamacaaGreatZB
set_option linter.unusedVariables false
set_option linter.unusedSimpArgs false
namespace Go.Proofs.YtpjncojljamacaaGreat.AM
open Go Go.RowKit

def bmpL (out : List Int) (s : List Int) : List Int := s.foldl (fun o c => o.set c.toNat (o.getD c.toNat 0 + 1)) out
theorem bmpL_len : ∀ (s out : List Int), (bmpL out s).length = out.length
  | [], out => rfl
  | c :: s, out => by
    show (bmpL (out.set c.toNat (out.getD c.toNat 0 + 1)) s).length = _
    rw [bmpL_len s, List.length_set]
theorem bmpL_at : ∀ (s out : List Int) (c : Nat), s.Nodup → (∀ x ∈ s, 0 ≤ x ∧ x < out.length) → (bmpL out s).getD c 0 = out.getD c 0 + (if (c : Int) ∈ s then 1 else 0)
  | [], out, c, _, _ => by simp [bmpL]
  | x :: s, out, c, hn, hr => by
    show (bmpL (out.set x.toNat (out.getD x.toNat 0 + 1)) s).getD c 0 = _
    rw [List.nodup_cons] at hn
    have hx := hr x (by simp)
    rw [bmpL_at s _ c hn.2 (fun y hy => by rw [List.length_set]; exact hr y (by simp [hy]))]
    have hset : (out.set x.toNat (out.getD x.toNat 0 + 1)).getD c 0 = if c = x.toNat then out.getD x.toNat 0 + 1 else out.getD c 0 := by
      by_cases e : c = x.toNat
      · subst e
        rw [if_pos rfl, List.getD, List.getElem?_set_self (by omega)]; rfl
      · rw [if_neg e, List.getD, List.getElem?_set_ne (Ne.symm e)]; rfl
    rw [hset]
    by_cases e : c = x.toNat
    · subst e
      have hxe : ((x.toNat : Nat) : Int) = x := by omega
      rw [if_pos rfl, hxe, if_neg hn.1, if_pos (by simp)]; omega
    · rw [if_neg e]
      have : ((c : Int) ∈ x :: s) ↔ (c : Int) ∈ s := by
        rw [List.mem_cons]
        constructor
        · rintro (h | h)
          · omega
          · exact h
        · exact .inr
      by_cases m : (c : Int) ∈ s
      · rw [if_pos m, if_pos (this.2 m)]
      · rw [if_neg m, if_neg (fun h => m (this.1 h))]
def hufF : Nat → Int → List Hea → List Int → List Int
  | f + 1, nx, a :: b :: l, out => hufF f (nx + 1) (insP (mrgH nx a b) l) (bmpL out (a.s ++ b.s))
  | _, _, _, out => out
theorem hufF0 (nx : Int) (out : List Int) : ∀ l, hufF 0 nx l out = out
  | [] => rfl
  | [_] => rfl
  | _ :: _ :: _ => rfl
def symH (l : List Hea) : List Int := l.flatMap Hea.s
theorem symH_ins (h : Hea) (l : List Hea) : (symH (insP h l)).Perm (h.s ++ symH l) := by
  unfold symH insP
  rw [List.flatMap_append, List.flatMap_cons]
  conv => rhs; rw [← List.take_append_drop (posH h l) l, List.flatMap_append]
  refine (List.perm_append_comm_assoc _ _ _)
theorem huf_len : ∀ (f : Nat) (nx : Int) (l : List Hea) (out : List Int), (hufF f nx l out).length = out.length
  | 0, nx, l, out => by rw [hufF0]
  | f + 1, nx, [], out => rfl
  | f + 1, nx, [a], out => rfl
  | f + 1, nx, a :: b :: l, out => by rw [hufF, huf_len f, bmpL_len]
theorem huf_at : ∀ (f : Nat) (nx : Int) (l : List Hea) (out : List Int), l.length ≤ f + 1 → (symH l).Nodup → (∀ x ∈ symH l, 0 ≤ x ∧ x < out.length) →
    (∀ (i c : Nat), i < l.length → (c : Int) ∈ (l.getD i hp0).s → (hufF f nx l out).getD c 0 = out.getD c 0 + (hdL f nx l).getD i 0) ∧ (∀ c : Nat, (c : Int) ∉ symH l → (hufF f nx l out).getD c 0 = out.getD c 0)
  | 0, nx, l, out, hl, hn, hr => by
    refine ⟨fun i c hi hc => ?_, fun c hc => by rw [hufF0]⟩
    rw [hufF0, hdL0]
    simp [List.getD, hi]
  | f + 1, nx, [], out, hl, hn, hr => ⟨fun i c hi => absurd hi (Nat.not_lt_zero _), fun c hc => rfl⟩
  | f + 1, nx, [a], out, hl, hn, hr => by
    refine ⟨fun i c hi hc => ?_, fun c hc => rfl⟩
    have : i = 0 := by simpa using hi
    subst this
    simp [hufF, hdL]
  | f + 1, nx, a :: b :: l, out, hl, hn, hr => by
    have hs : symH (a :: b :: l) = (a.s ++ b.s) ++ symH l := by unfold symH; simp
    rw [hs] at hn hr
    have hpm := symH_ins (mrgH nx a b) l
    have hms : (mrgH nx a b).s = a.s ++ b.s := rfl
    rw [hms] at hpm
    obtain ⟨n1, n2, n3⟩ := List.nodup_append.1 hn
    have hb := bmpL_at (a.s ++ b.s) out
    obtain ⟨ih1, ih2⟩ := huf_at f (nx + 1) (insP (mrgH nx a b) l) (bmpL out (a.s ++ b.s)) (by rw [insP_len]; simp only [List.length_cons] at hl; omega) (hpm.nodup_iff.2 hn) (fun x hx => by rw [bmpL_len]; exact hr x (hpm.mem_iff.1 hx))
    have hpl := posH_le (mrgH nx a b) l
    have hil := insP_len (mrgH nx a b) l
    have hat := fun i => @insP_at l (mrgH nx a b) i
    have hbo : ∀ c : Nat, (bmpL out (a.s ++ b.s)).getD c 0 = out.getD c 0 + (if (c : Int) ∈ a.s ++ b.s then 1 else 0) := fun c => hb c n1 (fun x hx => hr x (List.mem_append_left _ hx))
    have hnew : ∀ c : Nat, (c : Int) ∈ a.s ++ b.s → (hufF f (nx + 1) (insP (mrgH nx a b) l) (bmpL out (a.s ++ b.s))).getD c 0 = out.getD c 0 + ((hdL f (nx + 1) (insP (mrgH nx a b) l)).getD (posH (mrgH nx a b) l) 0 + 1 : Nat) := fun c hc => by
      rw [ih1 (posH (mrgH nx a b) l) c (by omega) (by rw [hat, if_neg (Nat.lt_irrefl _), if_pos rfl, hms]; exact hc), hbo c, if_pos hc]
      omega
    refine ⟨fun i c hi hc => ?_, fun c hc => ?_⟩
    · rw [hufF, hdL]
      match i with
      | 0 => exact hnew c (List.mem_append_left _ (by simpa using hc))
      | 1 => exact hnew c (List.mem_append_right _ (by simpa using hc))
      | i + 2 =>
        simp only [List.getD_cons_succ] at hc ⊢
        have hi' : i < l.length := by simpa using hi
        have hcm : (c : Int) ∈ symH l := List.mem_flatMap.2 ⟨_, memH hi', hc⟩
        have hco : (c : Int) ∉ a.s ++ b.s := fun h => n3 _ h _ hcm rfl
        rw [era_at]
        by_cases e : i < posH (mrgH nx a b) l
        · rw [if_pos e, ih1 i c (by omega) (by rw [hat, if_pos e]; exact hc), hbo c, if_neg hco]; omega
        · rw [if_neg e, ih1 (i + 1) c (by omega) (by rw [hat, if_neg (by omega), if_neg (by omega)]; exact hc), hbo c, if_neg hco]; omega
    · rw [hs] at hc
      rw [hufF, ih2 c (fun h => hc (hpm.mem_iff.1 h)), hbo c, if_neg (fun h => hc (List.mem_append_left _ h))]; omega
def hps0 (counts : List Int) : List Hea := ((List.range counts.length).filter (fun c => decide (0 < counts.getD c 0))).map (fun (c : Nat) => ⟨min (counts.getD c 0) mstW, c, [(c : Int)]⟩)
def srtH (l : List Hea) : List Hea := l.foldr insP []
theorem srtH_perm : ∀ l, (srtH l).Perm l
  | [] => List.Perm.refl _
  | h :: l => by
    show (insP h (srtH l)).Perm _
    unfold insP
    refine List.perm_middle.trans (List.Perm.cons h ?_)
    rw [List.take_append_drop]
    exact srtH_perm l
theorem srtH_srt : ∀ l : List Hea, l.Pairwise (fun a b => a.n ≠ b.n) → (srtH l).Pairwise ltH
  | [], _ => List.Pairwise.nil
  | h :: l, hn => by
    rw [List.pairwise_cons] at hn
    exact insP_srt (srtH_srt l hn.2) (fun x hx e => hn.1 x ((srtH_perm l).mem_iff.1 hx) e.symm)
def out0 (counts : List Int) : List Int := counts.map (fun n => if 0 < n then 0 else -1)
def dpsL (counts : List Int) : List Int := hufF (hps0 counts).length counts.length (srtH (hps0 counts)) (out0 counts)
theorem dpsL_len (counts : List Int) : (dpsL counts).length = counts.length := by unfold dpsL out0; rw [huf_len, List.length_map]
theorem hps0_num (counts : List Int) : (hps0 counts).Pairwise (fun a b => a.n ≠ b.n) := by
  unfold hps0
  rw [List.pairwise_map]
  have nat_ne : ∀ {a b : Nat}, a < b → (a : Int) ≠ b := fun h => by omega
  exact (List.pairwise_lt_range.filter _).imp (fun h e => nat_ne h e)
theorem hps0_mem {counts : List Int} {h : Hea} : h ∈ hps0 counts ↔ ∃ c : Nat, c < counts.length ∧ 0 < counts.getD c 0 ∧ h = ⟨min (counts.getD c 0) mstW, c, [(c : Int)]⟩ := by
  unfold hps0
  rw [List.mem_map]
  constructor
  · rintro ⟨c, hc, rfl⟩
    rw [List.mem_filter, List.mem_range, decide_eq_true_eq] at hc
    exact ⟨c, hc.1, hc.2, rfl⟩
  · rintro ⟨c, h1, h2, rfl⟩
    exact ⟨c, List.mem_filter.2 ⟨List.mem_range.2 h1, decide_eq_true h2⟩, rfl⟩
theorem srt_ok (counts : List Int) : HOk counts.length (srtH (hps0 counts)) := by
  refine ⟨srtH_srt _ (hps0_num counts), fun h hh => ?_, fun h hh => ?_⟩
  · obtain ⟨c, h1, h2, rfl⟩ := hps0_mem.1 ((srtH_perm _).mem_iff.1 hh)
    show (c : Int) < counts.length; omega
  · obtain ⟨c, h1, h2, rfl⟩ := hps0_mem.1 ((srtH_perm _).mem_iff.1 hh)
    show 0 < min (counts.getD c 0) mstW ∧ min (counts.getD c 0) mstW ≤ mstW
    unfold mstW; omega
theorem symH_perm {l l' : List Hea} (h : l.Perm l') : (symH l).Perm (symH l') := h.flatMap_right _
theorem symH0 (counts : List Int) : symH (hps0 counts) = ((List.range counts.length).filter (fun c => decide (0 < counts.getD c 0))).map (fun (c : Nat) => (c : Int)) := by
  unfold symH hps0
  generalize (List.range counts.length).filter (fun c => decide (0 < counts.getD c 0)) = l
  induction l with
  | nil => rfl
  | cons x l ih => rw [List.map_cons, List.map_cons, List.flatMap_cons, ih]; rfl
theorem nat_ne {a b : Nat} (h : a < b) : (a : Int) ≠ b := by omega
theorem sym_nodup (counts : List Int) : (symH (srtH (hps0 counts))).Nodup := by
  refine (symH_perm (srtH_perm _)).nodup_iff.2 ?_
  rw [symH0]
  unfold List.Nodup
  rw [List.pairwise_map]
  exact (List.pairwise_lt_range.filter _).imp (fun h e => nat_ne h e)
theorem sym_mem (counts : List Int) (x : Int) : x ∈ symH (srtH (hps0 counts)) ↔ ∃ c : Nat, x = c ∧ c < counts.length ∧ 0 < counts.getD c 0 := by
  rw [(symH_perm (srtH_perm _)).mem_iff, symH0, List.mem_map]
  constructor
  · rintro ⟨c, hc, rfl⟩
    rw [List.mem_filter, List.mem_range, decide_eq_true_eq] at hc
    exact ⟨c, rfl, hc.1, hc.2⟩
  · rintro ⟨c, rfl, h1, h2⟩
    exact ⟨c, List.mem_filter.2 ⟨List.mem_range.2 h1, decide_eq_true h2⟩, rfl⟩
def manyC (counts : List Int) : Nat := (hps0 counts).length
theorem srt_len (counts : List Int) : (srtH (hps0 counts)).length = manyC counts := (srtH_perm _).length_eq
def dpH (counts : List Int) : List Nat := hdL (manyC counts) counts.length (srtH (hps0 counts))
theorem dpH_len (counts : List Int) : (dpH counts).length = manyC counts := by unfold dpH; rw [hdL_len, srt_len]
theorem dps_at (counts : List Int) {c : Nat} (hc : c < counts.length) :
    (0 < counts.getD c 0 → ∃ i, i < manyC counts ∧ (srtH (hps0 counts)).getD i hp0 = ⟨min (counts.getD c 0) mstW, c, [(c : Int)]⟩ ∧ (dpsL counts).getD c 0 = (dpH counts).getD i 0) ∧ (¬ 0 < counts.getD c 0 → (dpsL counts).getD c 0 = -1) := by
  have hol : (out0 counts).length = counts.length := by unfold out0; rw [List.length_map]
  have hoa : (out0 counts).getD c 0 = if 0 < counts.getD c 0 then 0 else -1 := by
    unfold out0; simp [List.getD, List.getElem?_eq_getElem hc]
  obtain ⟨h1, h2⟩ := huf_at (hps0 counts).length counts.length (srtH (hps0 counts)) (out0 counts) (by rw [srt_len]; exact Nat.le_succ _) (sym_nodup counts) (fun x hx => by
    obtain ⟨k, rfl, hk, _⟩ := (sym_mem counts x).1 hx
    rw [hol]; omega)
  refine ⟨fun hp => ?_, fun hp => ?_⟩
  · have hm : (⟨min (counts.getD c 0) mstW, c, [(c : Int)]⟩ : Hea) ∈ srtH (hps0 counts) := (srtH_perm _).mem_iff.2 (hps0_mem.2 ⟨c, hc, hp, rfl⟩)
    obtain ⟨i, hi, e⟩ := ofMemH hm
    refine ⟨i, by rw [← srt_len]; exact hi, e, ?_⟩
    unfold dpsL dpH manyC
    rw [h1 i c hi (by rw [e]; simp), hoa, if_pos hp, Int.zero_add]
  · unfold dpsL
    rw [h2 c (fun hm => by obtain ⟨k, hk, h3, h4⟩ := (sym_mem counts _).1 hm; have : c = k := by omega
                           subst this; exact hp h4), hoa, if_neg hp]
end Go.Proofs.YtpjncojljamacaaGreat.AM
